-- Written by a program of this session (wip/gen), out of the translation; Lean checks it.
import Derived.Test.YtmhnidmbgicgeaaGx0
import Derived.Test.YtmhnidmbgicgeaaGx1
import Derived.Test.YtmhnidmbgicgeaaGx4
import Derived.Test.YtmhnidmbgicgeaaGx5
import Derived.Test.YtmhnidmbgicgeaaGx17
import Derived.Test.YtmhnidmbgicgeaaGx18
import Derived.Test.YtmhnidmbgicgeaaGx22
namespace Go.Proofs.Ytmhnidmbgicgeaa.G
open Go.RowKit Go.Proofs.YtmhnidmbgicgeaaW.PrintWords Go.Proofs.YtmhnidmbgicgeaaW.PrintLast Go.Proofs.YtmhnidmbgicgeaaW.PrintMore
attribute [local go_sem] max2_int min2_int max_two min_two max_three min_three max_four min_four   -- for this text's walks alone
set_option linter.unusedVariables false
set_option linter.unusedSimpArgs false

attribute [local go_sem high] eqA26
/-! ### relievolaw19_LightCos: function 6 -/
def relievolaw19_LightCos.j0 : Nat → Int → Bool → Int → Int → Int → Int → Int → Int → Option (Bool)
  | 0, _, _, _, _, _, _, _, _ => none
  | k + 1, x5, x29, x185000, x185001, x185002, x186000, x186001, x186002 => if x29 = true then (some (x5 == 0)) else ((vec_Scale.f x186000 x186001 x186002 (-1)).bind fun bt190 => ((light_Cos.f k x185000 x185001 x185002 bt190.1 bt190.2.1 bt190.2.2).bind fun t193 => ((light_Cos.f k x186000 x186001 x186002 x185000 x185001 x185002).bind fun t194 => (if x5 = t194 then ((light_Cos.f k x185000 x185001 x185002 x185000 x185001 x185002).bind fun t195 => (if t195 = 256 then (if x5 ≥ (-256) then (if x5 ≤ 256 then (if (wrap64 (x5 + t193)) = 0 then ((vec_Dot.f x185000 x185001 x185002 x186000 x186001 x186002).bind fun t196 => (if t196 = 0 then (some (x5 == 0)) else (some true))) else (if (wrap64 (x5 + t193)) = (-1) then ((vec_Dot.f x185000 x185001 x185002 x186000 x186001 x186002).bind fun t197 => (if t197 = 0 then (some (x5 == 0)) else (some true))) else (some false))) else (some false)) else (some false)) else (some false))) else (some false)))))
def relievolaw19_LightCos.f (k : Nat) (a0_0 : Int) (a0_1 : Int) (a0_2 : Int) (a1_0 : Int) (a1_1 : Int) (a1_2 : Int) : Option (Bool) := (relievolaw19_alive.f k).bind fun t186 => (if t186 = true then ((light_Cos.f k a0_0 a0_1 a0_2 a1_0 a1_1 a1_2).bind fun t187 => ((vec_Within.f a0_0 a0_1 a0_2 32768).bind fun t188 => (if t188 = true then ((vec_Within.f a1_0 a1_1 a1_2 32768).bind fun t189 => (if t189 = true then (if (a0_0 == 0 && (a0_1 == 0 && (a0_2 == 0))) = true then (relievolaw19_LightCos.j0 k t187 true a0_0 a0_1 a0_2 a1_0 a1_1 a1_2) else (relievolaw19_LightCos.j0 k t187 (a1_0 == 0 && (a1_1 == 0 && (a1_2 == 0))) a0_0 a0_1 a0_2 a1_0 a1_1 a1_2)) else (relievolaw19_LightCos.j0 k t187 true a0_0 a0_1 a0_2 a1_0 a1_1 a1_2))) else (relievolaw19_LightCos.j0 k t187 true a0_0 a0_1 a0_2 a1_0 a1_1 a1_2)))) else (some false))
set_option maxHeartbeats 8000000 in
set_option maxRecDepth 100000 in
theorem relievolaw19_LightCos.calls (k : Nat) (a0_0 : Int) (a0_1 : Int) (a0_2 : Int) (a1_0 : Int) (a1_1 : Int) (a1_2 : Int) (r : Bool) (w : World) (h : relievolaw19_LightCos.f k a0_0 a0_1 a0_2 a1_0 a1_1 a1_2 = some r) :
    Calls Try.prog 6 #[.agg #[.int .i64 a0_0, .int .i64 a0_1, .int .i64 a0_2], .agg #[.int .i64 a1_0, .int .i64 a1_1, .int .i64 a1_2]] w fun e w' => e = .returned (.bool r) ∧ Below w.heap.size w w' := by
 have hu26 := Try.underlying26
 have HB := Aside0.mk (Below.refl w.heap.size w)
 have H : ((relievolaw19_alive.f k).bind fun t186 => (if t186 = true then ((light_Cos.f k a0_0 a0_1 a0_2 a1_0 a1_1 a1_2).bind fun t187 => ((vec_Within.f a0_0 a0_1 a0_2 32768).bind fun t188 => (if t188 = true then ((vec_Within.f a1_0 a1_1 a1_2 32768).bind fun t189 => (if t189 = true then (if (a0_0 == 0 && (a0_1 == 0 && (a0_2 == 0))) = true then (relievolaw19_LightCos.j0 k t187 true a0_0 a0_1 a0_2 a1_0 a1_1 a1_2) else (relievolaw19_LightCos.j0 k t187 (a1_0 == 0 && (a1_1 == 0 && (a1_2 == 0))) a0_0 a0_1 a0_2 a1_0 a1_1 a1_2)) else (relievolaw19_LightCos.j0 k t187 true a0_0 a0_1 a0_2 a1_0 a1_1 a1_2))) else (relievolaw19_LightCos.j0 k t187 true a0_0 a0_1 a0_2 a1_0 a1_1 a1_2)))) else (some false))) = some r := h
 clear h
 replace H := Option.bind_eq_some_iff.mp H
 obtain ⟨t186, A30, H⟩ := H
 replace H : (if t186 = true then ((light_Cos.f k a0_0 a0_1 a0_2 a1_0 a1_1 a1_2).bind fun t187 => ((vec_Within.f a0_0 a0_1 a0_2 32768).bind fun t188 => (if t188 = true then ((vec_Within.f a1_0 a1_1 a1_2 32768).bind fun t189 => (if t189 = true then (if (a0_0 == 0 && (a0_1 == 0 && (a0_2 == 0))) = true then (relievolaw19_LightCos.j0 k t187 true a0_0 a0_1 a0_2 a1_0 a1_1 a1_2) else (relievolaw19_LightCos.j0 k t187 (a1_0 == 0 && (a1_1 == 0 && (a1_2 == 0))) a0_0 a0_1 a0_2 a1_0 a1_1 a1_2)) else (relievolaw19_LightCos.j0 k t187 true a0_0 a0_1 a0_2 a1_0 a1_1 a1_2))) else (relievolaw19_LightCos.j0 k t187 true a0_0 a0_1 a0_2 a1_0 a1_1 a1_2)))) else (some false)) = some r := H
 have A3 := Aside0.mk A30
 clear A30
 by_cases c4 : t186 = true
 ·subst c4
  have H1 : ((light_Cos.f k a0_0 a0_1 a0_2 a1_0 a1_1 a1_2).bind fun t187 => ((vec_Within.f a0_0 a0_1 a0_2 32768).bind fun t188 => (if t188 = true then ((vec_Within.f a1_0 a1_1 a1_2 32768).bind fun t189 => (if t189 = true then (if (a0_0 == 0 && (a0_1 == 0 && (a0_2 == 0))) = true then (relievolaw19_LightCos.j0 k t187 true a0_0 a0_1 a0_2 a1_0 a1_1 a1_2) else (relievolaw19_LightCos.j0 k t187 (a1_0 == 0 && (a1_1 == 0 && (a1_2 == 0))) a0_0 a0_1 a0_2 a1_0 a1_1 a1_2)) else (relievolaw19_LightCos.j0 k t187 true a0_0 a0_1 a0_2 a1_0 a1_1 a1_2))) else (relievolaw19_LightCos.j0 k t187 true a0_0 a0_1 a0_2 a1_0 a1_1 a1_2)))) = some r := by rw [if_pos rfl] at H; exact H
  clear H
  have H := H1
  clear H1
  replace H := Option.bind_eq_some_iff.mp H
  obtain ⟨t187, A50, H⟩ := H
  replace H : ((vec_Within.f a0_0 a0_1 a0_2 32768).bind fun t188 => (if t188 = true then ((vec_Within.f a1_0 a1_1 a1_2 32768).bind fun t189 => (if t189 = true then (if (a0_0 == 0 && (a0_1 == 0 && (a0_2 == 0))) = true then (relievolaw19_LightCos.j0 k t187 true a0_0 a0_1 a0_2 a1_0 a1_1 a1_2) else (relievolaw19_LightCos.j0 k t187 (a1_0 == 0 && (a1_1 == 0 && (a1_2 == 0))) a0_0 a0_1 a0_2 a1_0 a1_1 a1_2)) else (relievolaw19_LightCos.j0 k t187 true a0_0 a0_1 a0_2 a1_0 a1_1 a1_2))) else (relievolaw19_LightCos.j0 k t187 true a0_0 a0_1 a0_2 a1_0 a1_1 a1_2))) = some r := H
  have A5 := Aside0.mk A50
  clear A50
  have HC6 := Aside0.mk H
  clear H
  go_enter Try.func6, Try.ntmps6
  go_upto_region 4 with (first | ((with_reducible refine gate_dst (N := 2) rfl ?_); refine box_event ?hg (N := 2) ?hd (cs := #[.int .i64 a0_0, .int .i64 a0_1, .int .i64 a0_2]) (t := 26) ?hr ?_; (case hd => rfl); (case hg => rfl); (case hr => first | (go_simp; done) | (go_simp; rfl)); intro gb184 hg w7 hbox hb; have BK184 := Aside0.mk (hbox); have GE184 := Aside0.mk (bG hg (HB.out)); replace HB := Aside0.mk (below_step (HB.out) hb); clear hb hbox hg) | ((with_reducible refine gate_dst (N := 3) rfl ?_); refine box_event ?hg (N := 3) ?hd (cs := #[.int .i64 a1_0, .int .i64 a1_1, .int .i64 a1_2]) (t := 26) ?hr ?_; (case hd => rfl); (case hg => rfl); (case hr => first | (go_simp; done) | (go_simp; rfl)); intro gb185 hg w8 hbox hb; have BK185 := Aside0.mk (hbox); have GE185 := Aside0.mk (bG hg (HB.out)); have NB184_185 := cN hg BK184; have NB185_184 := cM hg BK184; replace BK184 := cB hb BK184; replace HB := Aside0.mk (below_step (HB.out) hb); clear hb hbox hg) | ((with_reducible refine gate_callee (f := 11) rfl ?_); refine goesL_ (some 7) rfl rfl Try.func11 (by kernel_rfl) rfl #[] rfl (by (try simp only [List.map_toArray, List.map_cons, List.map_nil]); first | done | rfl | (simp only [List.length_drop, List.length_take]; rfl)) ?_; (with_reducible refine (relievolaw19_alive.calls k  true _ A3.out).mono ?_); rintro e w9 ⟨rfl, hb⟩; refine ⟨_, rfl, ?_⟩; replace BK184 := cB hb BK184; replace BK185 := cB hb BK185; replace HB := Aside0.mk (below_step (HB.out) hb); (try clear hb); (try clear hb2); (try clear hk); (try clear hi); obtain ⟨hcz10_0, hcz10_1, hcz10_2⟩ := cells3 BK184.out; obtain ⟨hcz11_0, hcz11_1, hcz11_2⟩ := cells3 BK185.out) | ((with_reducible refine gate_callee (f := 17) rfl ?_); refine goesL_ (some 11) rfl rfl Try.func17 (by kernel_rfl) rfl #[.agg #[.int .i64 a0_0, .int .i64 a0_1, .int .i64 a0_2], .agg #[.int .i64 a1_0, .int .i64 a1_1, .int .i64 a1_2]] rfl (by (try simp only [List.map_toArray, List.map_cons, List.map_nil]); first | done | rfl | (simp only [List.length_drop, List.length_take]; rfl)) ?_; (with_reducible refine (light_Cos.calls k a0_0 a0_1 a0_2 a1_0 a1_1 a1_2 t187 _ A5.out).mono ?_); rintro e w12 ⟨rfl, hb⟩; refine ⟨_, rfl, ?_⟩; replace BK184 := cB hb BK184; replace BK185 := cB hb BK185; replace HB := Aside0.mk (below_step (HB.out) hb); (try clear hb); (try clear hb2); (try clear hk); (try clear hi)))
  (try simp only [Act.put, List.setIfInBounds_toArray, List.set_cons_zero, List.set_cons_succ])
  go_cut [29] (fun v29 wc => ∃ (kq : Nat) (x29_5 : Bool), v29 = .bool x29_5 ∧ Aside0 (relievolaw19_LightCos.j0 kq t187 x29_5 a0_0 a0_1 a0_2 a1_0 a1_1 a1_2 = some r) ∧ Aside0 (kq ≤ k) ∧ Aside0 (wc.heap[gb184]? = some (.cells #[.int .i64 a0_0, .int .i64 a0_1, .int .i64 a0_2] 26 (0, 0))) ∧ Aside0 (wc.heap[gb185]? = some (.cells #[.int .i64 a1_0, .int .i64 a1_1, .int .i64 a1_2] 26 (0, 0))) ∧ Aside0 (Below w.heap.size w wc))
  case first =>
   have H := HC6.out
   clear HC6
   replace H := Option.bind_eq_some_iff.mp H
   obtain ⟨t188, A130, H⟩ := H
   replace H : (if t188 = true then ((vec_Within.f a1_0 a1_1 a1_2 32768).bind fun t189 => (if t189 = true then (if (a0_0 == 0 && (a0_1 == 0 && (a0_2 == 0))) = true then (relievolaw19_LightCos.j0 k t187 true a0_0 a0_1 a0_2 a1_0 a1_1 a1_2) else (relievolaw19_LightCos.j0 k t187 (a1_0 == 0 && (a1_1 == 0 && (a1_2 == 0))) a0_0 a0_1 a0_2 a1_0 a1_1 a1_2)) else (relievolaw19_LightCos.j0 k t187 true a0_0 a0_1 a0_2 a1_0 a1_1 a1_2))) else (relievolaw19_LightCos.j0 k t187 true a0_0 a0_1 a0_2 a1_0 a1_1 a1_2)) = some r := H
   have A13 := Aside0.mk A130
   clear A130
   by_cases c14 : t188 = true
   ·subst c14
    have H1 : ((vec_Within.f a1_0 a1_1 a1_2 32768).bind fun t189 => (if t189 = true then (if (a0_0 == 0 && (a0_1 == 0 && (a0_2 == 0))) = true then (relievolaw19_LightCos.j0 k t187 true a0_0 a0_1 a0_2 a1_0 a1_1 a1_2) else (relievolaw19_LightCos.j0 k t187 (a1_0 == 0 && (a1_1 == 0 && (a1_2 == 0))) a0_0 a0_1 a0_2 a1_0 a1_1 a1_2)) else (relievolaw19_LightCos.j0 k t187 true a0_0 a0_1 a0_2 a1_0 a1_1 a1_2))) = some r := by rw [if_pos rfl] at H; exact H
    clear H
    have H := H1
    clear H1
    replace H := Option.bind_eq_some_iff.mp H
    obtain ⟨t189, A150, H⟩ := H
    replace H : (if t189 = true then (if (a0_0 == 0 && (a0_1 == 0 && (a0_2 == 0))) = true then (relievolaw19_LightCos.j0 k t187 true a0_0 a0_1 a0_2 a1_0 a1_1 a1_2) else (relievolaw19_LightCos.j0 k t187 (a1_0 == 0 && (a1_1 == 0 && (a1_2 == 0))) a0_0 a0_1 a0_2 a1_0 a1_1 a1_2)) else (relievolaw19_LightCos.j0 k t187 true a0_0 a0_1 a0_2 a1_0 a1_1 a1_2)) = some r := H
    have A15 := Aside0.mk A150
    clear A150
    by_cases c16 : t189 = true
    ·subst c16
     have H1 : (if (a0_0 == 0 && (a0_1 == 0 && (a0_2 == 0))) = true then (relievolaw19_LightCos.j0 k t187 true a0_0 a0_1 a0_2 a1_0 a1_1 a1_2) else (relievolaw19_LightCos.j0 k t187 (a1_0 == 0 && (a1_1 == 0 && (a1_2 == 0))) a0_0 a0_1 a0_2 a1_0 a1_1 a1_2)) = some r := by rw [if_pos rfl] at H; exact H
     clear H
     have H := H1
     clear H1
     by_cases c17 : (a0_0 == 0 && (a0_1 == 0 && (a0_2 == 0))) = true
     ·rw [if_pos c17] at H
      have c17b0 : (a0_0 == 0 && (a0_1 == 0 && (a0_2 == 0))) = true := c17
      (try (have c17b1 : decide (a0_0 = 0 && (a0_1 == 0 && (a0_2 == 0))) = true := by simpa using c17))
      (try (have c17b2 : (a0_0 == 0 && (a0_1 == 0 && (a0_2 == 0))) = true := by simpa using c17))
      clear c17
      (first | rw [c17b0] | (simp only [i64_w, i32_w]; rw [c17b0]) | skip)
      have H' := Aside0.mk H
      clear H
      obtain ⟨hcz18_0, hcz18_1, hcz18_2⟩ := cells3 BK184.out
      go_wp2_with (first | ((with_reducible refine gate_callee (f := 13) rfl ?_); refine goesL_ (some 13) rfl rfl Try.func13 (by kernel_rfl) rfl #[.agg #[.int .i64 a0_0, .int .i64 a0_1, .int .i64 a0_2], .int .i64 32768] rfl (by (try simp only [List.map_toArray, List.map_cons, List.map_nil]); first | done | rfl | (simp only [List.length_drop, List.length_take]; rfl)) ?_; (with_reducible refine (vec_Within.calls a0_0 a0_1 a0_2 32768 true _ A13.out).mono ?_); rintro e w19 ⟨rfl, hb⟩; refine ⟨_, rfl, ?_⟩; replace BK184 := cB hb BK184; replace BK185 := cB hb BK185; replace HB := Aside0.mk (below_step (HB.out) hb); (try clear hb); (try clear hb2); (try clear hk); (try clear hi); obtain ⟨hcz20_0, hcz20_1, hcz20_2⟩ := cells3 BK185.out) | (go_at_call 13; (with_reducible refine (vec_Within.calls a1_0 a1_1 a1_2 32768 true _ A15.out).mono ?_); rintro e w21 ⟨rfl, hb⟩; replace BK184 := cB hb BK184; replace BK185 := cB hb BK185; replace HB := Aside0.mk (below_step (HB.out) hb); (try clear hb); (try clear hb2); (try clear hk); (try clear hi); obtain ⟨hcz22_0, hcz22_1, hcz22_2⟩ := cells3 BK184.out))
      go_meet
      case rel => exact ⟨_, (true), (by first | rfl | (simp; done) | (simp [*]; done)), H', ⟨by first | omega | exact Nat.le_refl _⟩, ⟨BK184.out⟩, ⟨BK185.out⟩, ⟨HB.out⟩⟩
     rw [if_neg c17] at H
     have c17b0 : (a0_0 == 0 && (a0_1 == 0 && (a0_2 == 0))) = false := by simpa using c17
     (try (have c17b1 : decide (a0_0 = 0 && (a0_1 == 0 && (a0_2 == 0))) = false := by simpa using c17))
     (try (have c17b2 : (a0_0 == 0 && (a0_1 == 0 && (a0_2 == 0))) = false := by simpa using c17))
     (try (have c17b3 : ¬ (a0_0 = 0 && (a0_1 == 0 && (a0_2 == 0))) := by simpa using c17))
     clear c17
     (first | rw [c17b0] | (simp only [i64_w, i32_w]; rw [c17b0]) | skip)
     have H' := Aside0.mk H
     clear H
     obtain ⟨hcz23_0, hcz23_1, hcz23_2⟩ := cells3 BK184.out
     go_wp2_with (first | ((with_reducible refine gate_callee (f := 13) rfl ?_); refine goesL_ (some 13) rfl rfl Try.func13 (by kernel_rfl) rfl #[.agg #[.int .i64 a0_0, .int .i64 a0_1, .int .i64 a0_2], .int .i64 32768] rfl (by (try simp only [List.map_toArray, List.map_cons, List.map_nil]); first | done | rfl | (simp only [List.length_drop, List.length_take]; rfl)) ?_; (with_reducible refine (vec_Within.calls a0_0 a0_1 a0_2 32768 true _ A13.out).mono ?_); rintro e w24 ⟨rfl, hb⟩; refine ⟨_, rfl, ?_⟩; replace BK184 := cB hb BK184; replace BK185 := cB hb BK185; replace HB := Aside0.mk (below_step (HB.out) hb); (try clear hb); (try clear hb2); (try clear hk); (try clear hi); obtain ⟨hcz25_0, hcz25_1, hcz25_2⟩ := cells3 BK185.out) | (go_at_call 13; (with_reducible refine (vec_Within.calls a1_0 a1_1 a1_2 32768 true _ A15.out).mono ?_); rintro e w26 ⟨rfl, hb⟩; replace BK184 := cB hb BK184; replace BK185 := cB hb BK185; replace HB := Aside0.mk (below_step (HB.out) hb); (try clear hb); (try clear hb2); (try clear hk); (try clear hi); obtain ⟨hcz27_0, hcz27_1, hcz27_2⟩ := cells3 BK184.out; obtain ⟨hcz28_0, hcz28_1, hcz28_2⟩ := cells3 BK185.out))
     go_meet
     case rel => exact ⟨_, ((a1_0 == 0 && (a1_1 == 0 && (a1_2 == 0)))), (by first | rfl | (simp; done) | (simp [*]; done)), H', ⟨by first | omega | exact Nat.le_refl _⟩, ⟨BK184.out⟩, ⟨BK185.out⟩, ⟨HB.out⟩⟩
    replace c16 := Bool.eq_false_iff.mpr c16
    subst c16
    have H1 : (relievolaw19_LightCos.j0 k t187 true a0_0 a0_1 a0_2 a1_0 a1_1 a1_2) = some r := by rw [if_neg (show ¬ (false = true) by decide)] at H; exact H
    clear H
    have H := H1
    clear H1
    have H' := Aside0.mk H
    clear H
    obtain ⟨hcz29_0, hcz29_1, hcz29_2⟩ := cells3 BK184.out
    go_wp2_with (first | ((with_reducible refine gate_callee (f := 13) rfl ?_); refine goesL_ (some 13) rfl rfl Try.func13 (by kernel_rfl) rfl #[.agg #[.int .i64 a0_0, .int .i64 a0_1, .int .i64 a0_2], .int .i64 32768] rfl (by (try simp only [List.map_toArray, List.map_cons, List.map_nil]); first | done | rfl | (simp only [List.length_drop, List.length_take]; rfl)) ?_; (with_reducible refine (vec_Within.calls a0_0 a0_1 a0_2 32768 true _ A13.out).mono ?_); rintro e w30 ⟨rfl, hb⟩; refine ⟨_, rfl, ?_⟩; replace BK184 := cB hb BK184; replace BK185 := cB hb BK185; replace HB := Aside0.mk (below_step (HB.out) hb); (try clear hb); (try clear hb2); (try clear hk); (try clear hi); obtain ⟨hcz31_0, hcz31_1, hcz31_2⟩ := cells3 BK185.out) | (go_at_call 13; (with_reducible refine (vec_Within.calls a1_0 a1_1 a1_2 32768 false _ A15.out).mono ?_); rintro e w32 ⟨rfl, hb⟩; replace BK184 := cB hb BK184; replace BK185 := cB hb BK185; replace HB := Aside0.mk (below_step (HB.out) hb); (try clear hb); (try clear hb2); (try clear hk); (try clear hi)))
    go_meet
    case rel => exact ⟨_, (true), (by first | rfl | (simp; done) | (simp [*]; done)), H', ⟨by first | omega | exact Nat.le_refl _⟩, ⟨BK184.out⟩, ⟨BK185.out⟩, ⟨HB.out⟩⟩
   replace c14 := Bool.eq_false_iff.mpr c14
   subst c14
   have H1 : (relievolaw19_LightCos.j0 k t187 true a0_0 a0_1 a0_2 a1_0 a1_1 a1_2) = some r := by rw [if_neg (show ¬ (false = true) by decide)] at H; exact H
   clear H
   have H := H1
   clear H1
   have H' := Aside0.mk H
   clear H
   obtain ⟨hcz33_0, hcz33_1, hcz33_2⟩ := cells3 BK184.out
   go_wp2_with (first | ((with_reducible refine gate_callee (f := 13) rfl ?_); refine goesL_ (some 13) rfl rfl Try.func13 (by kernel_rfl) rfl #[.agg #[.int .i64 a0_0, .int .i64 a0_1, .int .i64 a0_2], .int .i64 32768] rfl (by (try simp only [List.map_toArray, List.map_cons, List.map_nil]); first | done | rfl | (simp only [List.length_drop, List.length_take]; rfl)) ?_; (with_reducible refine (vec_Within.calls a0_0 a0_1 a0_2 32768 false _ A13.out).mono ?_); rintro e w34 ⟨rfl, hb⟩; refine ⟨_, rfl, ?_⟩; replace BK184 := cB hb BK184; replace BK185 := cB hb BK185; replace HB := Aside0.mk (below_step (HB.out) hb); (try clear hb); (try clear hb2); (try clear hk); (try clear hi)))
   go_meet
   case rel => exact ⟨_, (true), (by first | rfl | (simp; done) | (simp [*]; done)), H', ⟨by first | omega | exact Nat.le_refl _⟩, ⟨BK184.out⟩, ⟨BK185.out⟩, ⟨HB.out⟩⟩
  clear HC6
  try clear c4
  try clear hcz10_0
  try clear hcz10_1
  try clear hcz10_2
  try clear hcz11_0
  try clear hcz11_1
  try clear hcz11_2
  obtain ⟨kq, x29_5, rfl, HA, HJ5, BK184, BK185, HB⟩ := hcut
  cases kq with
  | zero => exact absurd HA.out (by simp [relievolaw19_LightCos.j0])
  | succ kj5 =>
   have H := HA.out
   clear HA
   simp only [relievolaw19_LightCos.j0] at H
   by_cases c35 : x29_5 = true
   ·subst c35
    have H1 : (some (t187 == 0)) = some r := by rw [if_pos rfl] at H; exact H
    clear H
    have H := H1
    clear H1
    obtain rfl := Option.some.inj H
    go_wp2
    go_ret
    exact ⟨by first | rfl | (simp [errW_none, errW_some] <;> rfl) | (simp [*, errW_none, errW_some] <;> rfl), HB.out⟩
   replace c35 := Bool.eq_false_iff.mpr c35
   subst c35
   have H1 : ((vec_Scale.f a1_0 a1_1 a1_2 (-1)).bind fun bt190 => ((light_Cos.f kj5 a0_0 a0_1 a0_2 bt190.1 bt190.2.1 bt190.2.2).bind fun t193 => ((light_Cos.f kj5 a1_0 a1_1 a1_2 a0_0 a0_1 a0_2).bind fun t194 => (if t187 = t194 then ((light_Cos.f kj5 a0_0 a0_1 a0_2 a0_0 a0_1 a0_2).bind fun t195 => (if t195 = 256 then (if t187 ≥ (-256) then (if t187 ≤ 256 then (if (wrap64 (t187 + t193)) = 0 then ((vec_Dot.f a0_0 a0_1 a0_2 a1_0 a1_1 a1_2).bind fun t196 => (if t196 = 0 then (some (t187 == 0)) else (some true))) else (if (wrap64 (t187 + t193)) = (-1) then ((vec_Dot.f a0_0 a0_1 a0_2 a1_0 a1_1 a1_2).bind fun t197 => (if t197 = 0 then (some (t187 == 0)) else (some true))) else (some false))) else (some false)) else (some false)) else (some false))) else (some false))))) = some r := by rw [if_neg (show ¬ (false = true) by decide)] at H; exact H
   clear H
   have H := H1
   clear H1
   replace H := Option.bind_eq_some_iff.mp H
   obtain ⟨⟨t190, t191, t192⟩, A360, H⟩ := H
   replace H : ((light_Cos.f kj5 a0_0 a0_1 a0_2 t190 t191 t192).bind fun t193 => ((light_Cos.f kj5 a1_0 a1_1 a1_2 a0_0 a0_1 a0_2).bind fun t194 => (if t187 = t194 then ((light_Cos.f kj5 a0_0 a0_1 a0_2 a0_0 a0_1 a0_2).bind fun t195 => (if t195 = 256 then (if t187 ≥ (-256) then (if t187 ≤ 256 then (if (wrap64 (t187 + t193)) = 0 then ((vec_Dot.f a0_0 a0_1 a0_2 a1_0 a1_1 a1_2).bind fun t196 => (if t196 = 0 then (some (t187 == 0)) else (some true))) else (if (wrap64 (t187 + t193)) = (-1) then ((vec_Dot.f a0_0 a0_1 a0_2 a1_0 a1_1 a1_2).bind fun t197 => (if t197 = 0 then (some (t187 == 0)) else (some true))) else (some false))) else (some false)) else (some false)) else (some false))) else (some false)))) = some r := H
   have A36 := Aside0.mk A360
   clear A360
   replace H := Option.bind_eq_some_iff.mp H
   obtain ⟨t193, A370, H⟩ := H
   replace H : ((light_Cos.f kj5 a1_0 a1_1 a1_2 a0_0 a0_1 a0_2).bind fun t194 => (if t187 = t194 then ((light_Cos.f kj5 a0_0 a0_1 a0_2 a0_0 a0_1 a0_2).bind fun t195 => (if t195 = 256 then (if t187 ≥ (-256) then (if t187 ≤ 256 then (if (wrap64 (t187 + t193)) = 0 then ((vec_Dot.f a0_0 a0_1 a0_2 a1_0 a1_1 a1_2).bind fun t196 => (if t196 = 0 then (some (t187 == 0)) else (some true))) else (if (wrap64 (t187 + t193)) = (-1) then ((vec_Dot.f a0_0 a0_1 a0_2 a1_0 a1_1 a1_2).bind fun t197 => (if t197 = 0 then (some (t187 == 0)) else (some true))) else (some false))) else (some false)) else (some false)) else (some false))) else (some false))) = some r := H
   have A37 := Aside0.mk A370
   clear A370
   replace H := Option.bind_eq_some_iff.mp H
   obtain ⟨t194, A380, H⟩ := H
   replace H : (if t187 = t194 then ((light_Cos.f kj5 a0_0 a0_1 a0_2 a0_0 a0_1 a0_2).bind fun t195 => (if t195 = 256 then (if t187 ≥ (-256) then (if t187 ≤ 256 then (if (wrap64 (t187 + t193)) = 0 then ((vec_Dot.f a0_0 a0_1 a0_2 a1_0 a1_1 a1_2).bind fun t196 => (if t196 = 0 then (some (t187 == 0)) else (some true))) else (if (wrap64 (t187 + t193)) = (-1) then ((vec_Dot.f a0_0 a0_1 a0_2 a1_0 a1_1 a1_2).bind fun t197 => (if t197 = 0 then (some (t187 == 0)) else (some true))) else (some false))) else (some false)) else (some false)) else (some false))) else (some false)) = some r := H
   have A38 := Aside0.mk A380
   clear A380
   by_cases c39 : t187 = t194
   ·rw [if_pos c39] at H
    have c39b0 : (t187 == t194) = true := beq_iff_eq.mpr c39
    have c39b1 : (t187 != t194) = false := bne_eq_false_iff_eq.mpr c39
    clear c39
    replace H := Option.bind_eq_some_iff.mp H
    obtain ⟨t195, A400, H⟩ := H
    replace H : (if t195 = 256 then (if t187 ≥ (-256) then (if t187 ≤ 256 then (if (wrap64 (t187 + t193)) = 0 then ((vec_Dot.f a0_0 a0_1 a0_2 a1_0 a1_1 a1_2).bind fun t196 => (if t196 = 0 then (some (t187 == 0)) else (some true))) else (if (wrap64 (t187 + t193)) = (-1) then ((vec_Dot.f a0_0 a0_1 a0_2 a1_0 a1_1 a1_2).bind fun t197 => (if t197 = 0 then (some (t187 == 0)) else (some true))) else (some false))) else (some false)) else (some false)) else (some false)) = some r := H
    have A40 := Aside0.mk A400
    clear A400
    by_cases c41 : t195 = 256
    ·rw [if_pos c41] at H
     have c41b0 : (t195 == 256) = true := beq_iff_eq.mpr c41
     have c41b1 : (t195 != 256) = false := bne_eq_false_iff_eq.mpr c41
     clear c41
     by_cases c42 : t187 ≥ (-256)
     ·rw [if_pos c42] at H
      have c42b0 : decide ((-256) ≤ t187) = true := decide_eq_true c42
      clear c42
      by_cases c43 : t187 ≤ 256
      ·rw [if_pos c43] at H
       have c43b0 : decide (t187 ≤ 256) = true := decide_eq_true c43
       clear c43
       by_cases c44 : (wrap64 (t187 + t193)) = 0
       ·rw [if_pos c44] at H
        have c44b0 : ((wrap64 (t187 + t193)) == 0) = true := beq_iff_eq.mpr c44
        have c44b1 : ((wrap64 (t187 + t193)) != 0) = false := bne_eq_false_iff_eq.mpr c44
        clear c44
        replace H := Option.bind_eq_some_iff.mp H
        obtain ⟨t196, A450, H⟩ := H
        replace H : (if t196 = 0 then (some (t187 == 0)) else (some true)) = some r := H
        have A45 := Aside0.mk A450
        clear A450
        by_cases c46 : t196 = 0
        ·rw [if_pos c46] at H
         have c46b0 : (t196 == 0) = true := beq_iff_eq.mpr c46
         have c46b1 : (t196 != 0) = false := bne_eq_false_iff_eq.mpr c46
         clear c46
         obtain rfl := Option.some.inj H
         try go_wp2
         replace BK184 := Aside0.mk (blk_drew BK184.out)
         replace BK185 := Aside0.mk (blk_drew BK185.out)
         replace HB := Aside0.mk (below_drew1 HB.out)
         refine start_ (n := 5) (S := fun w' => w'.cell? ⟨gb184, 0, none⟩ = some (.int .i64 a0_0) ∧ w'.cell? ⟨gb184, 1, none⟩ = some (.int .i64 a0_1) ∧ w'.cell? ⟨gb184, 2, none⟩ = some (.int .i64 a0_2) ∧ w'.cell? ⟨gb185, 0, none⟩ = some (.int .i64 a1_0) ∧ w'.cell? ⟨gb185, 1, none⟩ = some (.int .i64 a1_1) ∧ w'.cell? ⟨gb185, 2, none⟩ = some (.int .i64 a1_2)) (ds := []) #[false, false, false, false, false] (by kernel_rfl) rfl rfl ⟨(blk_cell BK184.out 0).trans rfl, (blk_cell BK184.out 1).trans rfl, (blk_cell BK184.out 2).trans rfl, (blk_cell BK185.out 0).trans rfl, (blk_cell BK185.out 1).trans rfl, (blk_cell BK185.out 2).trans rfl⟩ (fun hHeld => ?_)
         generalize wc.drew = w47 at BK184 BK185 HB hHeld ⊢
         refine take_ (i := 0) (N := some 32) (v := ?_) (a' := ?_) #[true, false, false, false, false] rfl rfl (by kernel_rfl) (fun _ _ _ h => h) (Or.inl ⟨by rfl, ?_⟩) hHeld ?_ ?_
         rotate_left
         ·rintro w' ⟨s0, s1, s2, s3, s4, s5⟩
          go_simp
          with_reducible rfl
         rotate_left
         ·simp only [Act.put, List.setIfInBounds_toArray, List.set_cons_zero, List.set_cons_succ, i64_w, i32_w]
          rfl
         refine take_ (i := 1) (N := some 33) (v := ?_) (a' := ?_) #[true, true, false, false, false] rfl rfl (by kernel_rfl) (fun _ _ _ h => h) (Or.inl ⟨by rfl, ?_⟩) hHeld ?_ ?_
         rotate_left
         ·rintro w' ⟨s0, s1, s2, s3, s4, s5⟩
          go_simp
          with_reducible rfl
         rotate_left
         ·simp only [Act.put, List.setIfInBounds_toArray, List.set_cons_zero, List.set_cons_succ, i64_w, i32_w]
          rfl
         refine one_ (i := 2) (N := some 34) #[true, true, true, false, false] rfl rfl (by kernel_rfl) (by decide) (fun K hK => ?_)
         refine goes_ Try.func18 (by kernel_rfl) rfl #[.agg #[.int .i64 a1_0, .int .i64 a1_1, .int .i64 a1_2], .int .i64 (-1)] (by rfl) rfl rfl (by (try simp only [List.map_toArray, List.map_cons, List.map_nil]); first | done | rfl | (simp only [List.length_drop, List.length_take]; rfl)) ?_
         with_reducible refine (vec_Scale.calls a1_0 a1_1 a1_2 (-1) t190 t191 t192 _ A36.out).mono ?_
         rintro e w48 ⟨rfl, hb⟩
         refine ⟨_, rfl, ?_⟩
         replace BK184 := cB hb BK184
         replace BK185 := cB hb BK185
         replace HB := Aside0.mk (below_step (HB.out) hb)
         (try clear hb)
         (try clear hb2)
         (try clear hk)
         (try clear hi)
         refine hK.out _ _ ⟨(blk_cell BK184.out 0).trans rfl, (blk_cell BK184.out 1).trans rfl, (blk_cell BK184.out 2).trans rfl, (blk_cell BK185.out 0).trans rfl, (blk_cell BK185.out 1).trans rfl, (blk_cell BK185.out 2).trans rfl⟩ (fun hHeld => ?_)
         clear hK K
         refine norm_ (a' := ?_) ?_ ?_
         rotate_left
         ·show Act.put _ (some 34) _ = _
          simp only [Act.put, List.setIfInBounds_toArray, List.set_cons_zero, List.set_cons_succ, i64_w, i32_w]
          rfl
         refine one_ (i := 3) (N := some 35) #[true, true, true, true, false] rfl rfl (by kernel_rfl) (by decide) (fun K hK => ?_)
         refine goes_ Try.func17 (by kernel_rfl) rfl #[.agg #[.int .i64 a0_0, .int .i64 a0_1, .int .i64 a0_2], .agg #[.int .i64 t190, .int .i64 t191, .int .i64 t192]] (by rfl) rfl rfl (by (try simp only [List.map_toArray, List.map_cons, List.map_nil]); first | done | rfl | (simp only [List.length_drop, List.length_take]; rfl)) ?_
         with_reducible refine (light_Cos.calls kj5 a0_0 a0_1 a0_2 t190 t191 t192 t193 _ A37.out).mono ?_
         rintro e w49 ⟨rfl, hb⟩
         refine ⟨_, rfl, ?_⟩
         replace BK184 := cB hb BK184
         replace BK185 := cB hb BK185
         replace HB := Aside0.mk (below_step (HB.out) hb)
         (try clear hb)
         (try clear hb2)
         (try clear hk)
         (try clear hi)
         refine hK.out _ _ ⟨(blk_cell BK184.out 0).trans rfl, (blk_cell BK184.out 1).trans rfl, (blk_cell BK184.out 2).trans rfl, (blk_cell BK185.out 0).trans rfl, (blk_cell BK185.out 1).trans rfl, (blk_cell BK185.out 2).trans rfl⟩ (fun hHeld => ?_)
         clear hK K
         refine norm_ (a' := ?_) ?_ ?_
         rotate_left
         ·show Act.put _ (some 35) _ = _
          simp only [Act.put, List.setIfInBounds_toArray, List.set_cons_zero, List.set_cons_succ, i64_w, i32_w]
          rfl
         refine pure_ (i := 4) (N := some 6) (v := ?_) (a' := ?_) #[true, true, true, true, true] rfl rfl (by kernel_rfl) (fun _ _ _ h => h) (Or.inl ⟨by rfl, ?_⟩) ?_ ?_
         rotate_left
         ·intro w'
          go_simp
          with_reducible rfl
         rotate_left
         ·simp only [Act.put, List.setIfInBounds_toArray, List.set_cons_zero, List.set_cons_succ, i64_w, i32_w]
          rfl
         refine done_ (by kernel_rfl) ?_
         obtain ⟨hcz50_0, hcz50_1, hcz50_2⟩ := cells3 BK185.out
         obtain ⟨hcz51_0, hcz51_1, hcz51_2⟩ := cells3 BK184.out
         try go_wp2_with (first | ((with_reducible refine gate_callee (f := 17) rfl ?_); refine goesL_ (some 39) rfl rfl Try.func17 (by kernel_rfl) rfl #[.agg #[.int .i64 a1_0, .int .i64 a1_1, .int .i64 a1_2], .agg #[.int .i64 a0_0, .int .i64 a0_1, .int .i64 a0_2]] rfl (by (try simp only [List.map_toArray, List.map_cons, List.map_nil]); first | done | rfl | (simp only [List.length_drop, List.length_take]; rfl)) ?_; (with_reducible refine (light_Cos.calls kj5 a1_0 a1_1 a1_2 a0_0 a0_1 a0_2 t194 _ A38.out).mono ?_); rintro e w52 ⟨rfl, hb⟩; refine ⟨_, rfl, ?_⟩; replace BK184 := cB hb BK184; replace BK185 := cB hb BK185; replace HB := Aside0.mk (below_step (HB.out) hb); (try clear hb); (try clear hb2); (try clear hk); (try clear hi); obtain ⟨hcz53_0, hcz53_1, hcz53_2⟩ := cells3 BK184.out) | (go_at_call 17; (with_reducible refine (light_Cos.calls kj5 a0_0 a0_1 a0_2 a0_0 a0_1 a0_2 t195 _ A40.out).mono ?_); rintro e w54 ⟨rfl, hb⟩; replace BK184 := cB hb BK184; replace BK185 := cB hb BK185; replace HB := Aside0.mk (below_step (HB.out) hb); (try clear hb); (try clear hb2); (try clear hk); (try clear hi); obtain ⟨hcz55_0, hcz55_1, hcz55_2⟩ := cells3 BK184.out; obtain ⟨hcz56_0, hcz56_1, hcz56_2⟩ := cells3 BK185.out) | (go_at_call 16; (with_reducible refine (vec_Dot.calls a0_0 a0_1 a0_2 a1_0 a1_1 a1_2 t196 _ A45.out).mono ?_); rintro e w57 ⟨rfl, hb⟩; replace BK184 := cB hb BK184; replace BK185 := cB hb BK185; replace HB := Aside0.mk (below_step (HB.out) hb); (try clear hb); (try clear hb2); (try clear hk); (try clear hi)))
         go_ret
         exact ⟨by first | rfl | (simp [errW_none, errW_some] <;> rfl) | (simp [*, errW_none, errW_some] <;> rfl), HB.out⟩
        rw [if_neg c46] at H
        have c46b0 : (t196 == 0) = false := beq_eq_false_iff_ne.mpr c46
        have c46b1 : (t196 != 0) = true := bne_iff_ne.mpr c46
        obtain rfl := Option.some.inj H
        try go_wp2
        replace BK184 := Aside0.mk (blk_drew BK184.out)
        replace BK185 := Aside0.mk (blk_drew BK185.out)
        replace HB := Aside0.mk (below_drew1 HB.out)
        refine start_ (n := 5) (S := fun w' => w'.cell? ⟨gb184, 0, none⟩ = some (.int .i64 a0_0) ∧ w'.cell? ⟨gb184, 1, none⟩ = some (.int .i64 a0_1) ∧ w'.cell? ⟨gb184, 2, none⟩ = some (.int .i64 a0_2) ∧ w'.cell? ⟨gb185, 0, none⟩ = some (.int .i64 a1_0) ∧ w'.cell? ⟨gb185, 1, none⟩ = some (.int .i64 a1_1) ∧ w'.cell? ⟨gb185, 2, none⟩ = some (.int .i64 a1_2)) (ds := []) #[false, false, false, false, false] (by kernel_rfl) rfl rfl ⟨(blk_cell BK184.out 0).trans rfl, (blk_cell BK184.out 1).trans rfl, (blk_cell BK184.out 2).trans rfl, (blk_cell BK185.out 0).trans rfl, (blk_cell BK185.out 1).trans rfl, (blk_cell BK185.out 2).trans rfl⟩ (fun hHeld => ?_)
        generalize wc.drew = w58 at BK184 BK185 HB hHeld ⊢
        refine take_ (i := 0) (N := some 32) (v := ?_) (a' := ?_) #[true, false, false, false, false] rfl rfl (by kernel_rfl) (fun _ _ _ h => h) (Or.inl ⟨by rfl, ?_⟩) hHeld ?_ ?_
        rotate_left
        ·rintro w' ⟨s0, s1, s2, s3, s4, s5⟩
         go_simp
         with_reducible rfl
        rotate_left
        ·simp only [Act.put, List.setIfInBounds_toArray, List.set_cons_zero, List.set_cons_succ, i64_w, i32_w]
         rfl
        refine take_ (i := 1) (N := some 33) (v := ?_) (a' := ?_) #[true, true, false, false, false] rfl rfl (by kernel_rfl) (fun _ _ _ h => h) (Or.inl ⟨by rfl, ?_⟩) hHeld ?_ ?_
        rotate_left
        ·rintro w' ⟨s0, s1, s2, s3, s4, s5⟩
         go_simp
         with_reducible rfl
        rotate_left
        ·simp only [Act.put, List.setIfInBounds_toArray, List.set_cons_zero, List.set_cons_succ, i64_w, i32_w]
         rfl
        refine one_ (i := 2) (N := some 34) #[true, true, true, false, false] rfl rfl (by kernel_rfl) (by decide) (fun K hK => ?_)
        refine goes_ Try.func18 (by kernel_rfl) rfl #[.agg #[.int .i64 a1_0, .int .i64 a1_1, .int .i64 a1_2], .int .i64 (-1)] (by rfl) rfl rfl (by (try simp only [List.map_toArray, List.map_cons, List.map_nil]); first | done | rfl | (simp only [List.length_drop, List.length_take]; rfl)) ?_
        with_reducible refine (vec_Scale.calls a1_0 a1_1 a1_2 (-1) t190 t191 t192 _ A36.out).mono ?_
        rintro e w59 ⟨rfl, hb⟩
        refine ⟨_, rfl, ?_⟩
        replace BK184 := cB hb BK184
        replace BK185 := cB hb BK185
        replace HB := Aside0.mk (below_step (HB.out) hb)
        (try clear hb)
        (try clear hb2)
        (try clear hk)
        (try clear hi)
        refine hK.out _ _ ⟨(blk_cell BK184.out 0).trans rfl, (blk_cell BK184.out 1).trans rfl, (blk_cell BK184.out 2).trans rfl, (blk_cell BK185.out 0).trans rfl, (blk_cell BK185.out 1).trans rfl, (blk_cell BK185.out 2).trans rfl⟩ (fun hHeld => ?_)
        clear hK K
        refine norm_ (a' := ?_) ?_ ?_
        rotate_left
        ·show Act.put _ (some 34) _ = _
         simp only [Act.put, List.setIfInBounds_toArray, List.set_cons_zero, List.set_cons_succ, i64_w, i32_w]
         rfl
        refine one_ (i := 3) (N := some 35) #[true, true, true, true, false] rfl rfl (by kernel_rfl) (by decide) (fun K hK => ?_)
        refine goes_ Try.func17 (by kernel_rfl) rfl #[.agg #[.int .i64 a0_0, .int .i64 a0_1, .int .i64 a0_2], .agg #[.int .i64 t190, .int .i64 t191, .int .i64 t192]] (by rfl) rfl rfl (by (try simp only [List.map_toArray, List.map_cons, List.map_nil]); first | done | rfl | (simp only [List.length_drop, List.length_take]; rfl)) ?_
        with_reducible refine (light_Cos.calls kj5 a0_0 a0_1 a0_2 t190 t191 t192 t193 _ A37.out).mono ?_
        rintro e w60 ⟨rfl, hb⟩
        refine ⟨_, rfl, ?_⟩
        replace BK184 := cB hb BK184
        replace BK185 := cB hb BK185
        replace HB := Aside0.mk (below_step (HB.out) hb)
        (try clear hb)
        (try clear hb2)
        (try clear hk)
        (try clear hi)
        refine hK.out _ _ ⟨(blk_cell BK184.out 0).trans rfl, (blk_cell BK184.out 1).trans rfl, (blk_cell BK184.out 2).trans rfl, (blk_cell BK185.out 0).trans rfl, (blk_cell BK185.out 1).trans rfl, (blk_cell BK185.out 2).trans rfl⟩ (fun hHeld => ?_)
        clear hK K
        refine norm_ (a' := ?_) ?_ ?_
        rotate_left
        ·show Act.put _ (some 35) _ = _
         simp only [Act.put, List.setIfInBounds_toArray, List.set_cons_zero, List.set_cons_succ, i64_w, i32_w]
         rfl
        refine pure_ (i := 4) (N := some 6) (v := ?_) (a' := ?_) #[true, true, true, true, true] rfl rfl (by kernel_rfl) (fun _ _ _ h => h) (Or.inl ⟨by rfl, ?_⟩) ?_ ?_
        rotate_left
        ·intro w'
         go_simp
         with_reducible rfl
        rotate_left
        ·simp only [Act.put, List.setIfInBounds_toArray, List.set_cons_zero, List.set_cons_succ, i64_w, i32_w]
         rfl
        refine done_ (by kernel_rfl) ?_
        obtain ⟨hcz61_0, hcz61_1, hcz61_2⟩ := cells3 BK185.out
        obtain ⟨hcz62_0, hcz62_1, hcz62_2⟩ := cells3 BK184.out
        try go_wp2_with (first | ((with_reducible refine gate_callee (f := 17) rfl ?_); refine goesL_ (some 39) rfl rfl Try.func17 (by kernel_rfl) rfl #[.agg #[.int .i64 a1_0, .int .i64 a1_1, .int .i64 a1_2], .agg #[.int .i64 a0_0, .int .i64 a0_1, .int .i64 a0_2]] rfl (by (try simp only [List.map_toArray, List.map_cons, List.map_nil]); first | done | rfl | (simp only [List.length_drop, List.length_take]; rfl)) ?_; (with_reducible refine (light_Cos.calls kj5 a1_0 a1_1 a1_2 a0_0 a0_1 a0_2 t194 _ A38.out).mono ?_); rintro e w63 ⟨rfl, hb⟩; refine ⟨_, rfl, ?_⟩; replace BK184 := cB hb BK184; replace BK185 := cB hb BK185; replace HB := Aside0.mk (below_step (HB.out) hb); (try clear hb); (try clear hb2); (try clear hk); (try clear hi); obtain ⟨hcz64_0, hcz64_1, hcz64_2⟩ := cells3 BK184.out) | (go_at_call 17; (with_reducible refine (light_Cos.calls kj5 a0_0 a0_1 a0_2 a0_0 a0_1 a0_2 t195 _ A40.out).mono ?_); rintro e w65 ⟨rfl, hb⟩; replace BK184 := cB hb BK184; replace BK185 := cB hb BK185; replace HB := Aside0.mk (below_step (HB.out) hb); (try clear hb); (try clear hb2); (try clear hk); (try clear hi); obtain ⟨hcz66_0, hcz66_1, hcz66_2⟩ := cells3 BK184.out; obtain ⟨hcz67_0, hcz67_1, hcz67_2⟩ := cells3 BK185.out) | (go_at_call 16; (with_reducible refine (vec_Dot.calls a0_0 a0_1 a0_2 a1_0 a1_1 a1_2 t196 _ A45.out).mono ?_); rintro e w68 ⟨rfl, hb⟩; replace BK184 := cB hb BK184; replace BK185 := cB hb BK185; replace HB := Aside0.mk (below_step (HB.out) hb); (try clear hb); (try clear hb2); (try clear hk); (try clear hi)))
        go_ret
        exact ⟨by first | rfl | (simp [errW_none, errW_some] <;> rfl) | (simp [*, errW_none, errW_some] <;> rfl), HB.out⟩
       rw [if_neg c44] at H
       have c44b0 : ((wrap64 (t187 + t193)) == 0) = false := beq_eq_false_iff_ne.mpr c44
       have c44b1 : ((wrap64 (t187 + t193)) != 0) = true := bne_iff_ne.mpr c44
       by_cases c69 : (wrap64 (t187 + t193)) = (-1)
       ·rw [if_pos c69] at H
        have c69b0 : ((wrap64 (t187 + t193)) == (-1)) = true := beq_iff_eq.mpr c69
        have c69b1 : ((wrap64 (t187 + t193)) != (-1)) = false := bne_eq_false_iff_eq.mpr c69
        clear c69
        replace H := Option.bind_eq_some_iff.mp H
        obtain ⟨t197, A700, H⟩ := H
        replace H : (if t197 = 0 then (some (t187 == 0)) else (some true)) = some r := H
        have A70 := Aside0.mk A700
        clear A700
        by_cases c71 : t197 = 0
        ·rw [if_pos c71] at H
         have c71b0 : (t197 == 0) = true := beq_iff_eq.mpr c71
         have c71b1 : (t197 != 0) = false := bne_eq_false_iff_eq.mpr c71
         clear c71
         obtain rfl := Option.some.inj H
         try go_wp2
         replace BK184 := Aside0.mk (blk_drew BK184.out)
         replace BK185 := Aside0.mk (blk_drew BK185.out)
         replace HB := Aside0.mk (below_drew1 HB.out)
         refine start_ (n := 5) (S := fun w' => w'.cell? ⟨gb184, 0, none⟩ = some (.int .i64 a0_0) ∧ w'.cell? ⟨gb184, 1, none⟩ = some (.int .i64 a0_1) ∧ w'.cell? ⟨gb184, 2, none⟩ = some (.int .i64 a0_2) ∧ w'.cell? ⟨gb185, 0, none⟩ = some (.int .i64 a1_0) ∧ w'.cell? ⟨gb185, 1, none⟩ = some (.int .i64 a1_1) ∧ w'.cell? ⟨gb185, 2, none⟩ = some (.int .i64 a1_2)) (ds := []) #[false, false, false, false, false] (by kernel_rfl) rfl rfl ⟨(blk_cell BK184.out 0).trans rfl, (blk_cell BK184.out 1).trans rfl, (blk_cell BK184.out 2).trans rfl, (blk_cell BK185.out 0).trans rfl, (blk_cell BK185.out 1).trans rfl, (blk_cell BK185.out 2).trans rfl⟩ (fun hHeld => ?_)
         generalize wc.drew = w72 at BK184 BK185 HB hHeld ⊢
         refine take_ (i := 0) (N := some 32) (v := ?_) (a' := ?_) #[true, false, false, false, false] rfl rfl (by kernel_rfl) (fun _ _ _ h => h) (Or.inl ⟨by rfl, ?_⟩) hHeld ?_ ?_
         rotate_left
         ·rintro w' ⟨s0, s1, s2, s3, s4, s5⟩
          go_simp
          with_reducible rfl
         rotate_left
         ·simp only [Act.put, List.setIfInBounds_toArray, List.set_cons_zero, List.set_cons_succ, i64_w, i32_w]
          rfl
         refine take_ (i := 1) (N := some 33) (v := ?_) (a' := ?_) #[true, true, false, false, false] rfl rfl (by kernel_rfl) (fun _ _ _ h => h) (Or.inl ⟨by rfl, ?_⟩) hHeld ?_ ?_
         rotate_left
         ·rintro w' ⟨s0, s1, s2, s3, s4, s5⟩
          go_simp
          with_reducible rfl
         rotate_left
         ·simp only [Act.put, List.setIfInBounds_toArray, List.set_cons_zero, List.set_cons_succ, i64_w, i32_w]
          rfl
         refine one_ (i := 2) (N := some 34) #[true, true, true, false, false] rfl rfl (by kernel_rfl) (by decide) (fun K hK => ?_)
         refine goes_ Try.func18 (by kernel_rfl) rfl #[.agg #[.int .i64 a1_0, .int .i64 a1_1, .int .i64 a1_2], .int .i64 (-1)] (by rfl) rfl rfl (by (try simp only [List.map_toArray, List.map_cons, List.map_nil]); first | done | rfl | (simp only [List.length_drop, List.length_take]; rfl)) ?_
         with_reducible refine (vec_Scale.calls a1_0 a1_1 a1_2 (-1) t190 t191 t192 _ A36.out).mono ?_
         rintro e w73 ⟨rfl, hb⟩
         refine ⟨_, rfl, ?_⟩
         replace BK184 := cB hb BK184
         replace BK185 := cB hb BK185
         replace HB := Aside0.mk (below_step (HB.out) hb)
         (try clear hb)
         (try clear hb2)
         (try clear hk)
         (try clear hi)
         refine hK.out _ _ ⟨(blk_cell BK184.out 0).trans rfl, (blk_cell BK184.out 1).trans rfl, (blk_cell BK184.out 2).trans rfl, (blk_cell BK185.out 0).trans rfl, (blk_cell BK185.out 1).trans rfl, (blk_cell BK185.out 2).trans rfl⟩ (fun hHeld => ?_)
         clear hK K
         refine norm_ (a' := ?_) ?_ ?_
         rotate_left
         ·show Act.put _ (some 34) _ = _
          simp only [Act.put, List.setIfInBounds_toArray, List.set_cons_zero, List.set_cons_succ, i64_w, i32_w]
          rfl
         refine one_ (i := 3) (N := some 35) #[true, true, true, true, false] rfl rfl (by kernel_rfl) (by decide) (fun K hK => ?_)
         refine goes_ Try.func17 (by kernel_rfl) rfl #[.agg #[.int .i64 a0_0, .int .i64 a0_1, .int .i64 a0_2], .agg #[.int .i64 t190, .int .i64 t191, .int .i64 t192]] (by rfl) rfl rfl (by (try simp only [List.map_toArray, List.map_cons, List.map_nil]); first | done | rfl | (simp only [List.length_drop, List.length_take]; rfl)) ?_
         with_reducible refine (light_Cos.calls kj5 a0_0 a0_1 a0_2 t190 t191 t192 t193 _ A37.out).mono ?_
         rintro e w74 ⟨rfl, hb⟩
         refine ⟨_, rfl, ?_⟩
         replace BK184 := cB hb BK184
         replace BK185 := cB hb BK185
         replace HB := Aside0.mk (below_step (HB.out) hb)
         (try clear hb)
         (try clear hb2)
         (try clear hk)
         (try clear hi)
         refine hK.out _ _ ⟨(blk_cell BK184.out 0).trans rfl, (blk_cell BK184.out 1).trans rfl, (blk_cell BK184.out 2).trans rfl, (blk_cell BK185.out 0).trans rfl, (blk_cell BK185.out 1).trans rfl, (blk_cell BK185.out 2).trans rfl⟩ (fun hHeld => ?_)
         clear hK K
         refine norm_ (a' := ?_) ?_ ?_
         rotate_left
         ·show Act.put _ (some 35) _ = _
          simp only [Act.put, List.setIfInBounds_toArray, List.set_cons_zero, List.set_cons_succ, i64_w, i32_w]
          rfl
         refine pure_ (i := 4) (N := some 6) (v := ?_) (a' := ?_) #[true, true, true, true, true] rfl rfl (by kernel_rfl) (fun _ _ _ h => h) (Or.inl ⟨by rfl, ?_⟩) ?_ ?_
         rotate_left
         ·intro w'
          go_simp
          with_reducible rfl
         rotate_left
         ·simp only [Act.put, List.setIfInBounds_toArray, List.set_cons_zero, List.set_cons_succ, i64_w, i32_w]
          rfl
         refine done_ (by kernel_rfl) ?_
         obtain ⟨hcz75_0, hcz75_1, hcz75_2⟩ := cells3 BK185.out
         obtain ⟨hcz76_0, hcz76_1, hcz76_2⟩ := cells3 BK184.out
         try go_wp2_with (first | ((with_reducible refine gate_callee (f := 17) rfl ?_); refine goesL_ (some 39) rfl rfl Try.func17 (by kernel_rfl) rfl #[.agg #[.int .i64 a1_0, .int .i64 a1_1, .int .i64 a1_2], .agg #[.int .i64 a0_0, .int .i64 a0_1, .int .i64 a0_2]] rfl (by (try simp only [List.map_toArray, List.map_cons, List.map_nil]); first | done | rfl | (simp only [List.length_drop, List.length_take]; rfl)) ?_; (with_reducible refine (light_Cos.calls kj5 a1_0 a1_1 a1_2 a0_0 a0_1 a0_2 t194 _ A38.out).mono ?_); rintro e w77 ⟨rfl, hb⟩; refine ⟨_, rfl, ?_⟩; replace BK184 := cB hb BK184; replace BK185 := cB hb BK185; replace HB := Aside0.mk (below_step (HB.out) hb); (try clear hb); (try clear hb2); (try clear hk); (try clear hi); obtain ⟨hcz78_0, hcz78_1, hcz78_2⟩ := cells3 BK184.out) | (go_at_call 17; (with_reducible refine (light_Cos.calls kj5 a0_0 a0_1 a0_2 a0_0 a0_1 a0_2 t195 _ A40.out).mono ?_); rintro e w79 ⟨rfl, hb⟩; replace BK184 := cB hb BK184; replace BK185 := cB hb BK185; replace HB := Aside0.mk (below_step (HB.out) hb); (try clear hb); (try clear hb2); (try clear hk); (try clear hi); obtain ⟨hcz80_0, hcz80_1, hcz80_2⟩ := cells3 BK184.out; obtain ⟨hcz81_0, hcz81_1, hcz81_2⟩ := cells3 BK185.out) | (go_at_call 16; (with_reducible refine (vec_Dot.calls a0_0 a0_1 a0_2 a1_0 a1_1 a1_2 t197 _ A70.out).mono ?_); rintro e w82 ⟨rfl, hb⟩; replace BK184 := cB hb BK184; replace BK185 := cB hb BK185; replace HB := Aside0.mk (below_step (HB.out) hb); (try clear hb); (try clear hb2); (try clear hk); (try clear hi)))
         go_ret
         exact ⟨by first | rfl | (simp [errW_none, errW_some] <;> rfl) | (simp [*, errW_none, errW_some] <;> rfl), HB.out⟩
        rw [if_neg c71] at H
        have c71b0 : (t197 == 0) = false := beq_eq_false_iff_ne.mpr c71
        have c71b1 : (t197 != 0) = true := bne_iff_ne.mpr c71
        obtain rfl := Option.some.inj H
        try go_wp2
        replace BK184 := Aside0.mk (blk_drew BK184.out)
        replace BK185 := Aside0.mk (blk_drew BK185.out)
        replace HB := Aside0.mk (below_drew1 HB.out)
        refine start_ (n := 5) (S := fun w' => w'.cell? ⟨gb184, 0, none⟩ = some (.int .i64 a0_0) ∧ w'.cell? ⟨gb184, 1, none⟩ = some (.int .i64 a0_1) ∧ w'.cell? ⟨gb184, 2, none⟩ = some (.int .i64 a0_2) ∧ w'.cell? ⟨gb185, 0, none⟩ = some (.int .i64 a1_0) ∧ w'.cell? ⟨gb185, 1, none⟩ = some (.int .i64 a1_1) ∧ w'.cell? ⟨gb185, 2, none⟩ = some (.int .i64 a1_2)) (ds := []) #[false, false, false, false, false] (by kernel_rfl) rfl rfl ⟨(blk_cell BK184.out 0).trans rfl, (blk_cell BK184.out 1).trans rfl, (blk_cell BK184.out 2).trans rfl, (blk_cell BK185.out 0).trans rfl, (blk_cell BK185.out 1).trans rfl, (blk_cell BK185.out 2).trans rfl⟩ (fun hHeld => ?_)
        generalize wc.drew = w83 at BK184 BK185 HB hHeld ⊢
        refine take_ (i := 0) (N := some 32) (v := ?_) (a' := ?_) #[true, false, false, false, false] rfl rfl (by kernel_rfl) (fun _ _ _ h => h) (Or.inl ⟨by rfl, ?_⟩) hHeld ?_ ?_
        rotate_left
        ·rintro w' ⟨s0, s1, s2, s3, s4, s5⟩
         go_simp
         with_reducible rfl
        rotate_left
        ·simp only [Act.put, List.setIfInBounds_toArray, List.set_cons_zero, List.set_cons_succ, i64_w, i32_w]
         rfl
        refine take_ (i := 1) (N := some 33) (v := ?_) (a' := ?_) #[true, true, false, false, false] rfl rfl (by kernel_rfl) (fun _ _ _ h => h) (Or.inl ⟨by rfl, ?_⟩) hHeld ?_ ?_
        rotate_left
        ·rintro w' ⟨s0, s1, s2, s3, s4, s5⟩
         go_simp
         with_reducible rfl
        rotate_left
        ·simp only [Act.put, List.setIfInBounds_toArray, List.set_cons_zero, List.set_cons_succ, i64_w, i32_w]
         rfl
        refine one_ (i := 2) (N := some 34) #[true, true, true, false, false] rfl rfl (by kernel_rfl) (by decide) (fun K hK => ?_)
        refine goes_ Try.func18 (by kernel_rfl) rfl #[.agg #[.int .i64 a1_0, .int .i64 a1_1, .int .i64 a1_2], .int .i64 (-1)] (by rfl) rfl rfl (by (try simp only [List.map_toArray, List.map_cons, List.map_nil]); first | done | rfl | (simp only [List.length_drop, List.length_take]; rfl)) ?_
        with_reducible refine (vec_Scale.calls a1_0 a1_1 a1_2 (-1) t190 t191 t192 _ A36.out).mono ?_
        rintro e w84 ⟨rfl, hb⟩
        refine ⟨_, rfl, ?_⟩
        replace BK184 := cB hb BK184
        replace BK185 := cB hb BK185
        replace HB := Aside0.mk (below_step (HB.out) hb)
        (try clear hb)
        (try clear hb2)
        (try clear hk)
        (try clear hi)
        refine hK.out _ _ ⟨(blk_cell BK184.out 0).trans rfl, (blk_cell BK184.out 1).trans rfl, (blk_cell BK184.out 2).trans rfl, (blk_cell BK185.out 0).trans rfl, (blk_cell BK185.out 1).trans rfl, (blk_cell BK185.out 2).trans rfl⟩ (fun hHeld => ?_)
        clear hK K
        refine norm_ (a' := ?_) ?_ ?_
        rotate_left
        ·show Act.put _ (some 34) _ = _
         simp only [Act.put, List.setIfInBounds_toArray, List.set_cons_zero, List.set_cons_succ, i64_w, i32_w]
         rfl
        refine one_ (i := 3) (N := some 35) #[true, true, true, true, false] rfl rfl (by kernel_rfl) (by decide) (fun K hK => ?_)
        refine goes_ Try.func17 (by kernel_rfl) rfl #[.agg #[.int .i64 a0_0, .int .i64 a0_1, .int .i64 a0_2], .agg #[.int .i64 t190, .int .i64 t191, .int .i64 t192]] (by rfl) rfl rfl (by (try simp only [List.map_toArray, List.map_cons, List.map_nil]); first | done | rfl | (simp only [List.length_drop, List.length_take]; rfl)) ?_
        with_reducible refine (light_Cos.calls kj5 a0_0 a0_1 a0_2 t190 t191 t192 t193 _ A37.out).mono ?_
        rintro e w85 ⟨rfl, hb⟩
        refine ⟨_, rfl, ?_⟩
        replace BK184 := cB hb BK184
        replace BK185 := cB hb BK185
        replace HB := Aside0.mk (below_step (HB.out) hb)
        (try clear hb)
        (try clear hb2)
        (try clear hk)
        (try clear hi)
        refine hK.out _ _ ⟨(blk_cell BK184.out 0).trans rfl, (blk_cell BK184.out 1).trans rfl, (blk_cell BK184.out 2).trans rfl, (blk_cell BK185.out 0).trans rfl, (blk_cell BK185.out 1).trans rfl, (blk_cell BK185.out 2).trans rfl⟩ (fun hHeld => ?_)
        clear hK K
        refine norm_ (a' := ?_) ?_ ?_
        rotate_left
        ·show Act.put _ (some 35) _ = _
         simp only [Act.put, List.setIfInBounds_toArray, List.set_cons_zero, List.set_cons_succ, i64_w, i32_w]
         rfl
        refine pure_ (i := 4) (N := some 6) (v := ?_) (a' := ?_) #[true, true, true, true, true] rfl rfl (by kernel_rfl) (fun _ _ _ h => h) (Or.inl ⟨by rfl, ?_⟩) ?_ ?_
        rotate_left
        ·intro w'
         go_simp
         with_reducible rfl
        rotate_left
        ·simp only [Act.put, List.setIfInBounds_toArray, List.set_cons_zero, List.set_cons_succ, i64_w, i32_w]
         rfl
        refine done_ (by kernel_rfl) ?_
        obtain ⟨hcz86_0, hcz86_1, hcz86_2⟩ := cells3 BK185.out
        obtain ⟨hcz87_0, hcz87_1, hcz87_2⟩ := cells3 BK184.out
        try go_wp2_with (first | ((with_reducible refine gate_callee (f := 17) rfl ?_); refine goesL_ (some 39) rfl rfl Try.func17 (by kernel_rfl) rfl #[.agg #[.int .i64 a1_0, .int .i64 a1_1, .int .i64 a1_2], .agg #[.int .i64 a0_0, .int .i64 a0_1, .int .i64 a0_2]] rfl (by (try simp only [List.map_toArray, List.map_cons, List.map_nil]); first | done | rfl | (simp only [List.length_drop, List.length_take]; rfl)) ?_; (with_reducible refine (light_Cos.calls kj5 a1_0 a1_1 a1_2 a0_0 a0_1 a0_2 t194 _ A38.out).mono ?_); rintro e w88 ⟨rfl, hb⟩; refine ⟨_, rfl, ?_⟩; replace BK184 := cB hb BK184; replace BK185 := cB hb BK185; replace HB := Aside0.mk (below_step (HB.out) hb); (try clear hb); (try clear hb2); (try clear hk); (try clear hi); obtain ⟨hcz89_0, hcz89_1, hcz89_2⟩ := cells3 BK184.out) | (go_at_call 17; (with_reducible refine (light_Cos.calls kj5 a0_0 a0_1 a0_2 a0_0 a0_1 a0_2 t195 _ A40.out).mono ?_); rintro e w90 ⟨rfl, hb⟩; replace BK184 := cB hb BK184; replace BK185 := cB hb BK185; replace HB := Aside0.mk (below_step (HB.out) hb); (try clear hb); (try clear hb2); (try clear hk); (try clear hi); obtain ⟨hcz91_0, hcz91_1, hcz91_2⟩ := cells3 BK184.out; obtain ⟨hcz92_0, hcz92_1, hcz92_2⟩ := cells3 BK185.out) | (go_at_call 16; (with_reducible refine (vec_Dot.calls a0_0 a0_1 a0_2 a1_0 a1_1 a1_2 t197 _ A70.out).mono ?_); rintro e w93 ⟨rfl, hb⟩; replace BK184 := cB hb BK184; replace BK185 := cB hb BK185; replace HB := Aside0.mk (below_step (HB.out) hb); (try clear hb); (try clear hb2); (try clear hk); (try clear hi)))
        go_ret
        exact ⟨by first | rfl | (simp [errW_none, errW_some] <;> rfl) | (simp [*, errW_none, errW_some] <;> rfl), HB.out⟩
       rw [if_neg c69] at H
       have c69b0 : ((wrap64 (t187 + t193)) == (-1)) = false := beq_eq_false_iff_ne.mpr c69
       have c69b1 : ((wrap64 (t187 + t193)) != (-1)) = true := bne_iff_ne.mpr c69
       obtain rfl := Option.some.inj H
       try go_wp2
       replace BK184 := Aside0.mk (blk_drew BK184.out)
       replace BK185 := Aside0.mk (blk_drew BK185.out)
       replace HB := Aside0.mk (below_drew1 HB.out)
       refine start_ (n := 5) (S := fun w' => w'.cell? ⟨gb184, 0, none⟩ = some (.int .i64 a0_0) ∧ w'.cell? ⟨gb184, 1, none⟩ = some (.int .i64 a0_1) ∧ w'.cell? ⟨gb184, 2, none⟩ = some (.int .i64 a0_2) ∧ w'.cell? ⟨gb185, 0, none⟩ = some (.int .i64 a1_0) ∧ w'.cell? ⟨gb185, 1, none⟩ = some (.int .i64 a1_1) ∧ w'.cell? ⟨gb185, 2, none⟩ = some (.int .i64 a1_2)) (ds := []) #[false, false, false, false, false] (by kernel_rfl) rfl rfl ⟨(blk_cell BK184.out 0).trans rfl, (blk_cell BK184.out 1).trans rfl, (blk_cell BK184.out 2).trans rfl, (blk_cell BK185.out 0).trans rfl, (blk_cell BK185.out 1).trans rfl, (blk_cell BK185.out 2).trans rfl⟩ (fun hHeld => ?_)
       generalize wc.drew = w94 at BK184 BK185 HB hHeld ⊢
       refine take_ (i := 0) (N := some 32) (v := ?_) (a' := ?_) #[true, false, false, false, false] rfl rfl (by kernel_rfl) (fun _ _ _ h => h) (Or.inl ⟨by rfl, ?_⟩) hHeld ?_ ?_
       rotate_left
       ·rintro w' ⟨s0, s1, s2, s3, s4, s5⟩
        go_simp
        with_reducible rfl
       rotate_left
       ·simp only [Act.put, List.setIfInBounds_toArray, List.set_cons_zero, List.set_cons_succ, i64_w, i32_w]
        rfl
       refine take_ (i := 1) (N := some 33) (v := ?_) (a' := ?_) #[true, true, false, false, false] rfl rfl (by kernel_rfl) (fun _ _ _ h => h) (Or.inl ⟨by rfl, ?_⟩) hHeld ?_ ?_
       rotate_left
       ·rintro w' ⟨s0, s1, s2, s3, s4, s5⟩
        go_simp
        with_reducible rfl
       rotate_left
       ·simp only [Act.put, List.setIfInBounds_toArray, List.set_cons_zero, List.set_cons_succ, i64_w, i32_w]
        rfl
       refine one_ (i := 2) (N := some 34) #[true, true, true, false, false] rfl rfl (by kernel_rfl) (by decide) (fun K hK => ?_)
       refine goes_ Try.func18 (by kernel_rfl) rfl #[.agg #[.int .i64 a1_0, .int .i64 a1_1, .int .i64 a1_2], .int .i64 (-1)] (by rfl) rfl rfl (by (try simp only [List.map_toArray, List.map_cons, List.map_nil]); first | done | rfl | (simp only [List.length_drop, List.length_take]; rfl)) ?_
       with_reducible refine (vec_Scale.calls a1_0 a1_1 a1_2 (-1) t190 t191 t192 _ A36.out).mono ?_
       rintro e w95 ⟨rfl, hb⟩
       refine ⟨_, rfl, ?_⟩
       replace BK184 := cB hb BK184
       replace BK185 := cB hb BK185
       replace HB := Aside0.mk (below_step (HB.out) hb)
       (try clear hb)
       (try clear hb2)
       (try clear hk)
       (try clear hi)
       refine hK.out _ _ ⟨(blk_cell BK184.out 0).trans rfl, (blk_cell BK184.out 1).trans rfl, (blk_cell BK184.out 2).trans rfl, (blk_cell BK185.out 0).trans rfl, (blk_cell BK185.out 1).trans rfl, (blk_cell BK185.out 2).trans rfl⟩ (fun hHeld => ?_)
       clear hK K
       refine norm_ (a' := ?_) ?_ ?_
       rotate_left
       ·show Act.put _ (some 34) _ = _
        simp only [Act.put, List.setIfInBounds_toArray, List.set_cons_zero, List.set_cons_succ, i64_w, i32_w]
        rfl
       refine one_ (i := 3) (N := some 35) #[true, true, true, true, false] rfl rfl (by kernel_rfl) (by decide) (fun K hK => ?_)
       refine goes_ Try.func17 (by kernel_rfl) rfl #[.agg #[.int .i64 a0_0, .int .i64 a0_1, .int .i64 a0_2], .agg #[.int .i64 t190, .int .i64 t191, .int .i64 t192]] (by rfl) rfl rfl (by (try simp only [List.map_toArray, List.map_cons, List.map_nil]); first | done | rfl | (simp only [List.length_drop, List.length_take]; rfl)) ?_
       with_reducible refine (light_Cos.calls kj5 a0_0 a0_1 a0_2 t190 t191 t192 t193 _ A37.out).mono ?_
       rintro e w96 ⟨rfl, hb⟩
       refine ⟨_, rfl, ?_⟩
       replace BK184 := cB hb BK184
       replace BK185 := cB hb BK185
       replace HB := Aside0.mk (below_step (HB.out) hb)
       (try clear hb)
       (try clear hb2)
       (try clear hk)
       (try clear hi)
       refine hK.out _ _ ⟨(blk_cell BK184.out 0).trans rfl, (blk_cell BK184.out 1).trans rfl, (blk_cell BK184.out 2).trans rfl, (blk_cell BK185.out 0).trans rfl, (blk_cell BK185.out 1).trans rfl, (blk_cell BK185.out 2).trans rfl⟩ (fun hHeld => ?_)
       clear hK K
       refine norm_ (a' := ?_) ?_ ?_
       rotate_left
       ·show Act.put _ (some 35) _ = _
        simp only [Act.put, List.setIfInBounds_toArray, List.set_cons_zero, List.set_cons_succ, i64_w, i32_w]
        rfl
       refine pure_ (i := 4) (N := some 6) (v := ?_) (a' := ?_) #[true, true, true, true, true] rfl rfl (by kernel_rfl) (fun _ _ _ h => h) (Or.inl ⟨by rfl, ?_⟩) ?_ ?_
       rotate_left
       ·intro w'
        go_simp
        with_reducible rfl
       rotate_left
       ·simp only [Act.put, List.setIfInBounds_toArray, List.set_cons_zero, List.set_cons_succ, i64_w, i32_w]
        rfl
       refine done_ (by kernel_rfl) ?_
       obtain ⟨hcz97_0, hcz97_1, hcz97_2⟩ := cells3 BK185.out
       obtain ⟨hcz98_0, hcz98_1, hcz98_2⟩ := cells3 BK184.out
       try go_wp2_with (first | ((with_reducible refine gate_callee (f := 17) rfl ?_); refine goesL_ (some 39) rfl rfl Try.func17 (by kernel_rfl) rfl #[.agg #[.int .i64 a1_0, .int .i64 a1_1, .int .i64 a1_2], .agg #[.int .i64 a0_0, .int .i64 a0_1, .int .i64 a0_2]] rfl (by (try simp only [List.map_toArray, List.map_cons, List.map_nil]); first | done | rfl | (simp only [List.length_drop, List.length_take]; rfl)) ?_; (with_reducible refine (light_Cos.calls kj5 a1_0 a1_1 a1_2 a0_0 a0_1 a0_2 t194 _ A38.out).mono ?_); rintro e w99 ⟨rfl, hb⟩; refine ⟨_, rfl, ?_⟩; replace BK184 := cB hb BK184; replace BK185 := cB hb BK185; replace HB := Aside0.mk (below_step (HB.out) hb); (try clear hb); (try clear hb2); (try clear hk); (try clear hi); obtain ⟨hcz100_0, hcz100_1, hcz100_2⟩ := cells3 BK184.out) | (go_at_call 17; (with_reducible refine (light_Cos.calls kj5 a0_0 a0_1 a0_2 a0_0 a0_1 a0_2 t195 _ A40.out).mono ?_); rintro e w101 ⟨rfl, hb⟩; replace BK184 := cB hb BK184; replace BK185 := cB hb BK185; replace HB := Aside0.mk (below_step (HB.out) hb); (try clear hb); (try clear hb2); (try clear hk); (try clear hi)))
       go_ret
       exact ⟨by first | rfl | (simp [errW_none, errW_some] <;> rfl) | (simp [*, errW_none, errW_some] <;> rfl), HB.out⟩
      rw [if_neg c43] at H
      have c43b0 : decide (t187 ≤ 256) = false := decide_eq_false c43
      clear c43
      obtain rfl := Option.some.inj H
      try go_wp2
      replace BK184 := Aside0.mk (blk_drew BK184.out)
      replace BK185 := Aside0.mk (blk_drew BK185.out)
      replace HB := Aside0.mk (below_drew1 HB.out)
      refine start_ (n := 5) (S := fun w' => w'.cell? ⟨gb184, 0, none⟩ = some (.int .i64 a0_0) ∧ w'.cell? ⟨gb184, 1, none⟩ = some (.int .i64 a0_1) ∧ w'.cell? ⟨gb184, 2, none⟩ = some (.int .i64 a0_2) ∧ w'.cell? ⟨gb185, 0, none⟩ = some (.int .i64 a1_0) ∧ w'.cell? ⟨gb185, 1, none⟩ = some (.int .i64 a1_1) ∧ w'.cell? ⟨gb185, 2, none⟩ = some (.int .i64 a1_2)) (ds := []) #[false, false, false, false, false] (by kernel_rfl) rfl rfl ⟨(blk_cell BK184.out 0).trans rfl, (blk_cell BK184.out 1).trans rfl, (blk_cell BK184.out 2).trans rfl, (blk_cell BK185.out 0).trans rfl, (blk_cell BK185.out 1).trans rfl, (blk_cell BK185.out 2).trans rfl⟩ (fun hHeld => ?_)
      generalize wc.drew = w102 at BK184 BK185 HB hHeld ⊢
      refine take_ (i := 0) (N := some 32) (v := ?_) (a' := ?_) #[true, false, false, false, false] rfl rfl (by kernel_rfl) (fun _ _ _ h => h) (Or.inl ⟨by rfl, ?_⟩) hHeld ?_ ?_
      rotate_left
      ·rintro w' ⟨s0, s1, s2, s3, s4, s5⟩
       go_simp
       with_reducible rfl
      rotate_left
      ·simp only [Act.put, List.setIfInBounds_toArray, List.set_cons_zero, List.set_cons_succ, i64_w, i32_w]
       rfl
      refine take_ (i := 1) (N := some 33) (v := ?_) (a' := ?_) #[true, true, false, false, false] rfl rfl (by kernel_rfl) (fun _ _ _ h => h) (Or.inl ⟨by rfl, ?_⟩) hHeld ?_ ?_
      rotate_left
      ·rintro w' ⟨s0, s1, s2, s3, s4, s5⟩
       go_simp
       with_reducible rfl
      rotate_left
      ·simp only [Act.put, List.setIfInBounds_toArray, List.set_cons_zero, List.set_cons_succ, i64_w, i32_w]
       rfl
      refine one_ (i := 2) (N := some 34) #[true, true, true, false, false] rfl rfl (by kernel_rfl) (by decide) (fun K hK => ?_)
      refine goes_ Try.func18 (by kernel_rfl) rfl #[.agg #[.int .i64 a1_0, .int .i64 a1_1, .int .i64 a1_2], .int .i64 (-1)] (by rfl) rfl rfl (by (try simp only [List.map_toArray, List.map_cons, List.map_nil]); first | done | rfl | (simp only [List.length_drop, List.length_take]; rfl)) ?_
      with_reducible refine (vec_Scale.calls a1_0 a1_1 a1_2 (-1) t190 t191 t192 _ A36.out).mono ?_
      rintro e w103 ⟨rfl, hb⟩
      refine ⟨_, rfl, ?_⟩
      replace BK184 := cB hb BK184
      replace BK185 := cB hb BK185
      replace HB := Aside0.mk (below_step (HB.out) hb)
      (try clear hb)
      (try clear hb2)
      (try clear hk)
      (try clear hi)
      refine hK.out _ _ ⟨(blk_cell BK184.out 0).trans rfl, (blk_cell BK184.out 1).trans rfl, (blk_cell BK184.out 2).trans rfl, (blk_cell BK185.out 0).trans rfl, (blk_cell BK185.out 1).trans rfl, (blk_cell BK185.out 2).trans rfl⟩ (fun hHeld => ?_)
      clear hK K
      refine norm_ (a' := ?_) ?_ ?_
      rotate_left
      ·show Act.put _ (some 34) _ = _
       simp only [Act.put, List.setIfInBounds_toArray, List.set_cons_zero, List.set_cons_succ, i64_w, i32_w]
       rfl
      refine one_ (i := 3) (N := some 35) #[true, true, true, true, false] rfl rfl (by kernel_rfl) (by decide) (fun K hK => ?_)
      refine goes_ Try.func17 (by kernel_rfl) rfl #[.agg #[.int .i64 a0_0, .int .i64 a0_1, .int .i64 a0_2], .agg #[.int .i64 t190, .int .i64 t191, .int .i64 t192]] (by rfl) rfl rfl (by (try simp only [List.map_toArray, List.map_cons, List.map_nil]); first | done | rfl | (simp only [List.length_drop, List.length_take]; rfl)) ?_
      with_reducible refine (light_Cos.calls kj5 a0_0 a0_1 a0_2 t190 t191 t192 t193 _ A37.out).mono ?_
      rintro e w104 ⟨rfl, hb⟩
      refine ⟨_, rfl, ?_⟩
      replace BK184 := cB hb BK184
      replace BK185 := cB hb BK185
      replace HB := Aside0.mk (below_step (HB.out) hb)
      (try clear hb)
      (try clear hb2)
      (try clear hk)
      (try clear hi)
      refine hK.out _ _ ⟨(blk_cell BK184.out 0).trans rfl, (blk_cell BK184.out 1).trans rfl, (blk_cell BK184.out 2).trans rfl, (blk_cell BK185.out 0).trans rfl, (blk_cell BK185.out 1).trans rfl, (blk_cell BK185.out 2).trans rfl⟩ (fun hHeld => ?_)
      clear hK K
      refine norm_ (a' := ?_) ?_ ?_
      rotate_left
      ·show Act.put _ (some 35) _ = _
       simp only [Act.put, List.setIfInBounds_toArray, List.set_cons_zero, List.set_cons_succ, i64_w, i32_w]
       rfl
      refine pure_ (i := 4) (N := some 6) (v := ?_) (a' := ?_) #[true, true, true, true, true] rfl rfl (by kernel_rfl) (fun _ _ _ h => h) (Or.inl ⟨by rfl, ?_⟩) ?_ ?_
      rotate_left
      ·intro w'
       go_simp
       with_reducible rfl
      rotate_left
      ·simp only [Act.put, List.setIfInBounds_toArray, List.set_cons_zero, List.set_cons_succ, i64_w, i32_w]
       rfl
      refine done_ (by kernel_rfl) ?_
      obtain ⟨hcz105_0, hcz105_1, hcz105_2⟩ := cells3 BK185.out
      obtain ⟨hcz106_0, hcz106_1, hcz106_2⟩ := cells3 BK184.out
      try go_wp2_with (first | ((with_reducible refine gate_callee (f := 17) rfl ?_); refine goesL_ (some 39) rfl rfl Try.func17 (by kernel_rfl) rfl #[.agg #[.int .i64 a1_0, .int .i64 a1_1, .int .i64 a1_2], .agg #[.int .i64 a0_0, .int .i64 a0_1, .int .i64 a0_2]] rfl (by (try simp only [List.map_toArray, List.map_cons, List.map_nil]); first | done | rfl | (simp only [List.length_drop, List.length_take]; rfl)) ?_; (with_reducible refine (light_Cos.calls kj5 a1_0 a1_1 a1_2 a0_0 a0_1 a0_2 t194 _ A38.out).mono ?_); rintro e w107 ⟨rfl, hb⟩; refine ⟨_, rfl, ?_⟩; replace BK184 := cB hb BK184; replace BK185 := cB hb BK185; replace HB := Aside0.mk (below_step (HB.out) hb); (try clear hb); (try clear hb2); (try clear hk); (try clear hi); obtain ⟨hcz108_0, hcz108_1, hcz108_2⟩ := cells3 BK184.out) | (go_at_call 17; (with_reducible refine (light_Cos.calls kj5 a0_0 a0_1 a0_2 a0_0 a0_1 a0_2 t195 _ A40.out).mono ?_); rintro e w109 ⟨rfl, hb⟩; replace BK184 := cB hb BK184; replace BK185 := cB hb BK185; replace HB := Aside0.mk (below_step (HB.out) hb); (try clear hb); (try clear hb2); (try clear hk); (try clear hi)))
      go_ret
      exact ⟨by first | rfl | (simp [errW_none, errW_some] <;> rfl) | (simp [*, errW_none, errW_some] <;> rfl), HB.out⟩
     rw [if_neg c42] at H
     have c42b0 : decide ((-256) ≤ t187) = false := decide_eq_false c42
     clear c42
     obtain rfl := Option.some.inj H
     try go_wp2
     replace BK184 := Aside0.mk (blk_drew BK184.out)
     replace BK185 := Aside0.mk (blk_drew BK185.out)
     replace HB := Aside0.mk (below_drew1 HB.out)
     refine start_ (n := 5) (S := fun w' => w'.cell? ⟨gb184, 0, none⟩ = some (.int .i64 a0_0) ∧ w'.cell? ⟨gb184, 1, none⟩ = some (.int .i64 a0_1) ∧ w'.cell? ⟨gb184, 2, none⟩ = some (.int .i64 a0_2) ∧ w'.cell? ⟨gb185, 0, none⟩ = some (.int .i64 a1_0) ∧ w'.cell? ⟨gb185, 1, none⟩ = some (.int .i64 a1_1) ∧ w'.cell? ⟨gb185, 2, none⟩ = some (.int .i64 a1_2)) (ds := []) #[false, false, false, false, false] (by kernel_rfl) rfl rfl ⟨(blk_cell BK184.out 0).trans rfl, (blk_cell BK184.out 1).trans rfl, (blk_cell BK184.out 2).trans rfl, (blk_cell BK185.out 0).trans rfl, (blk_cell BK185.out 1).trans rfl, (blk_cell BK185.out 2).trans rfl⟩ (fun hHeld => ?_)
     generalize wc.drew = w110 at BK184 BK185 HB hHeld ⊢
     refine take_ (i := 0) (N := some 32) (v := ?_) (a' := ?_) #[true, false, false, false, false] rfl rfl (by kernel_rfl) (fun _ _ _ h => h) (Or.inl ⟨by rfl, ?_⟩) hHeld ?_ ?_
     rotate_left
     ·rintro w' ⟨s0, s1, s2, s3, s4, s5⟩
      go_simp
      with_reducible rfl
     rotate_left
     ·simp only [Act.put, List.setIfInBounds_toArray, List.set_cons_zero, List.set_cons_succ, i64_w, i32_w]
      rfl
     refine take_ (i := 1) (N := some 33) (v := ?_) (a' := ?_) #[true, true, false, false, false] rfl rfl (by kernel_rfl) (fun _ _ _ h => h) (Or.inl ⟨by rfl, ?_⟩) hHeld ?_ ?_
     rotate_left
     ·rintro w' ⟨s0, s1, s2, s3, s4, s5⟩
      go_simp
      with_reducible rfl
     rotate_left
     ·simp only [Act.put, List.setIfInBounds_toArray, List.set_cons_zero, List.set_cons_succ, i64_w, i32_w]
      rfl
     refine one_ (i := 2) (N := some 34) #[true, true, true, false, false] rfl rfl (by kernel_rfl) (by decide) (fun K hK => ?_)
     refine goes_ Try.func18 (by kernel_rfl) rfl #[.agg #[.int .i64 a1_0, .int .i64 a1_1, .int .i64 a1_2], .int .i64 (-1)] (by rfl) rfl rfl (by (try simp only [List.map_toArray, List.map_cons, List.map_nil]); first | done | rfl | (simp only [List.length_drop, List.length_take]; rfl)) ?_
     with_reducible refine (vec_Scale.calls a1_0 a1_1 a1_2 (-1) t190 t191 t192 _ A36.out).mono ?_
     rintro e w111 ⟨rfl, hb⟩
     refine ⟨_, rfl, ?_⟩
     replace BK184 := cB hb BK184
     replace BK185 := cB hb BK185
     replace HB := Aside0.mk (below_step (HB.out) hb)
     (try clear hb)
     (try clear hb2)
     (try clear hk)
     (try clear hi)
     refine hK.out _ _ ⟨(blk_cell BK184.out 0).trans rfl, (blk_cell BK184.out 1).trans rfl, (blk_cell BK184.out 2).trans rfl, (blk_cell BK185.out 0).trans rfl, (blk_cell BK185.out 1).trans rfl, (blk_cell BK185.out 2).trans rfl⟩ (fun hHeld => ?_)
     clear hK K
     refine norm_ (a' := ?_) ?_ ?_
     rotate_left
     ·show Act.put _ (some 34) _ = _
      simp only [Act.put, List.setIfInBounds_toArray, List.set_cons_zero, List.set_cons_succ, i64_w, i32_w]
      rfl
     refine one_ (i := 3) (N := some 35) #[true, true, true, true, false] rfl rfl (by kernel_rfl) (by decide) (fun K hK => ?_)
     refine goes_ Try.func17 (by kernel_rfl) rfl #[.agg #[.int .i64 a0_0, .int .i64 a0_1, .int .i64 a0_2], .agg #[.int .i64 t190, .int .i64 t191, .int .i64 t192]] (by rfl) rfl rfl (by (try simp only [List.map_toArray, List.map_cons, List.map_nil]); first | done | rfl | (simp only [List.length_drop, List.length_take]; rfl)) ?_
     with_reducible refine (light_Cos.calls kj5 a0_0 a0_1 a0_2 t190 t191 t192 t193 _ A37.out).mono ?_
     rintro e w112 ⟨rfl, hb⟩
     refine ⟨_, rfl, ?_⟩
     replace BK184 := cB hb BK184
     replace BK185 := cB hb BK185
     replace HB := Aside0.mk (below_step (HB.out) hb)
     (try clear hb)
     (try clear hb2)
     (try clear hk)
     (try clear hi)
     refine hK.out _ _ ⟨(blk_cell BK184.out 0).trans rfl, (blk_cell BK184.out 1).trans rfl, (blk_cell BK184.out 2).trans rfl, (blk_cell BK185.out 0).trans rfl, (blk_cell BK185.out 1).trans rfl, (blk_cell BK185.out 2).trans rfl⟩ (fun hHeld => ?_)
     clear hK K
     refine norm_ (a' := ?_) ?_ ?_
     rotate_left
     ·show Act.put _ (some 35) _ = _
      simp only [Act.put, List.setIfInBounds_toArray, List.set_cons_zero, List.set_cons_succ, i64_w, i32_w]
      rfl
     refine pure_ (i := 4) (N := some 6) (v := ?_) (a' := ?_) #[true, true, true, true, true] rfl rfl (by kernel_rfl) (fun _ _ _ h => h) (Or.inl ⟨by rfl, ?_⟩) ?_ ?_
     rotate_left
     ·intro w'
      go_simp
      with_reducible rfl
     rotate_left
     ·simp only [Act.put, List.setIfInBounds_toArray, List.set_cons_zero, List.set_cons_succ, i64_w, i32_w]
      rfl
     refine done_ (by kernel_rfl) ?_
     obtain ⟨hcz113_0, hcz113_1, hcz113_2⟩ := cells3 BK185.out
     obtain ⟨hcz114_0, hcz114_1, hcz114_2⟩ := cells3 BK184.out
     try go_wp2_with (first | ((with_reducible refine gate_callee (f := 17) rfl ?_); refine goesL_ (some 39) rfl rfl Try.func17 (by kernel_rfl) rfl #[.agg #[.int .i64 a1_0, .int .i64 a1_1, .int .i64 a1_2], .agg #[.int .i64 a0_0, .int .i64 a0_1, .int .i64 a0_2]] rfl (by (try simp only [List.map_toArray, List.map_cons, List.map_nil]); first | done | rfl | (simp only [List.length_drop, List.length_take]; rfl)) ?_; (with_reducible refine (light_Cos.calls kj5 a1_0 a1_1 a1_2 a0_0 a0_1 a0_2 t194 _ A38.out).mono ?_); rintro e w115 ⟨rfl, hb⟩; refine ⟨_, rfl, ?_⟩; replace BK184 := cB hb BK184; replace BK185 := cB hb BK185; replace HB := Aside0.mk (below_step (HB.out) hb); (try clear hb); (try clear hb2); (try clear hk); (try clear hi); obtain ⟨hcz116_0, hcz116_1, hcz116_2⟩ := cells3 BK184.out) | (go_at_call 17; (with_reducible refine (light_Cos.calls kj5 a0_0 a0_1 a0_2 a0_0 a0_1 a0_2 t195 _ A40.out).mono ?_); rintro e w117 ⟨rfl, hb⟩; replace BK184 := cB hb BK184; replace BK185 := cB hb BK185; replace HB := Aside0.mk (below_step (HB.out) hb); (try clear hb); (try clear hb2); (try clear hk); (try clear hi)))
     go_ret
     exact ⟨by first | rfl | (simp [errW_none, errW_some] <;> rfl) | (simp [*, errW_none, errW_some] <;> rfl), HB.out⟩
    rw [if_neg c41] at H
    have c41b0 : (t195 == 256) = false := beq_eq_false_iff_ne.mpr c41
    have c41b1 : (t195 != 256) = true := bne_iff_ne.mpr c41
    obtain rfl := Option.some.inj H
    try go_wp2
    replace BK184 := Aside0.mk (blk_drew BK184.out)
    replace BK185 := Aside0.mk (blk_drew BK185.out)
    replace HB := Aside0.mk (below_drew1 HB.out)
    refine start_ (n := 5) (S := fun w' => w'.cell? ⟨gb184, 0, none⟩ = some (.int .i64 a0_0) ∧ w'.cell? ⟨gb184, 1, none⟩ = some (.int .i64 a0_1) ∧ w'.cell? ⟨gb184, 2, none⟩ = some (.int .i64 a0_2) ∧ w'.cell? ⟨gb185, 0, none⟩ = some (.int .i64 a1_0) ∧ w'.cell? ⟨gb185, 1, none⟩ = some (.int .i64 a1_1) ∧ w'.cell? ⟨gb185, 2, none⟩ = some (.int .i64 a1_2)) (ds := []) #[false, false, false, false, false] (by kernel_rfl) rfl rfl ⟨(blk_cell BK184.out 0).trans rfl, (blk_cell BK184.out 1).trans rfl, (blk_cell BK184.out 2).trans rfl, (blk_cell BK185.out 0).trans rfl, (blk_cell BK185.out 1).trans rfl, (blk_cell BK185.out 2).trans rfl⟩ (fun hHeld => ?_)
    generalize wc.drew = w118 at BK184 BK185 HB hHeld ⊢
    refine take_ (i := 0) (N := some 32) (v := ?_) (a' := ?_) #[true, false, false, false, false] rfl rfl (by kernel_rfl) (fun _ _ _ h => h) (Or.inl ⟨by rfl, ?_⟩) hHeld ?_ ?_
    rotate_left
    ·rintro w' ⟨s0, s1, s2, s3, s4, s5⟩
     go_simp
     with_reducible rfl
    rotate_left
    ·simp only [Act.put, List.setIfInBounds_toArray, List.set_cons_zero, List.set_cons_succ, i64_w, i32_w]
     rfl
    refine take_ (i := 1) (N := some 33) (v := ?_) (a' := ?_) #[true, true, false, false, false] rfl rfl (by kernel_rfl) (fun _ _ _ h => h) (Or.inl ⟨by rfl, ?_⟩) hHeld ?_ ?_
    rotate_left
    ·rintro w' ⟨s0, s1, s2, s3, s4, s5⟩
     go_simp
     with_reducible rfl
    rotate_left
    ·simp only [Act.put, List.setIfInBounds_toArray, List.set_cons_zero, List.set_cons_succ, i64_w, i32_w]
     rfl
    refine one_ (i := 2) (N := some 34) #[true, true, true, false, false] rfl rfl (by kernel_rfl) (by decide) (fun K hK => ?_)
    refine goes_ Try.func18 (by kernel_rfl) rfl #[.agg #[.int .i64 a1_0, .int .i64 a1_1, .int .i64 a1_2], .int .i64 (-1)] (by rfl) rfl rfl (by (try simp only [List.map_toArray, List.map_cons, List.map_nil]); first | done | rfl | (simp only [List.length_drop, List.length_take]; rfl)) ?_
    with_reducible refine (vec_Scale.calls a1_0 a1_1 a1_2 (-1) t190 t191 t192 _ A36.out).mono ?_
    rintro e w119 ⟨rfl, hb⟩
    refine ⟨_, rfl, ?_⟩
    replace BK184 := cB hb BK184
    replace BK185 := cB hb BK185
    replace HB := Aside0.mk (below_step (HB.out) hb)
    (try clear hb)
    (try clear hb2)
    (try clear hk)
    (try clear hi)
    refine hK.out _ _ ⟨(blk_cell BK184.out 0).trans rfl, (blk_cell BK184.out 1).trans rfl, (blk_cell BK184.out 2).trans rfl, (blk_cell BK185.out 0).trans rfl, (blk_cell BK185.out 1).trans rfl, (blk_cell BK185.out 2).trans rfl⟩ (fun hHeld => ?_)
    clear hK K
    refine norm_ (a' := ?_) ?_ ?_
    rotate_left
    ·show Act.put _ (some 34) _ = _
     simp only [Act.put, List.setIfInBounds_toArray, List.set_cons_zero, List.set_cons_succ, i64_w, i32_w]
     rfl
    refine one_ (i := 3) (N := some 35) #[true, true, true, true, false] rfl rfl (by kernel_rfl) (by decide) (fun K hK => ?_)
    refine goes_ Try.func17 (by kernel_rfl) rfl #[.agg #[.int .i64 a0_0, .int .i64 a0_1, .int .i64 a0_2], .agg #[.int .i64 t190, .int .i64 t191, .int .i64 t192]] (by rfl) rfl rfl (by (try simp only [List.map_toArray, List.map_cons, List.map_nil]); first | done | rfl | (simp only [List.length_drop, List.length_take]; rfl)) ?_
    with_reducible refine (light_Cos.calls kj5 a0_0 a0_1 a0_2 t190 t191 t192 t193 _ A37.out).mono ?_
    rintro e w120 ⟨rfl, hb⟩
    refine ⟨_, rfl, ?_⟩
    replace BK184 := cB hb BK184
    replace BK185 := cB hb BK185
    replace HB := Aside0.mk (below_step (HB.out) hb)
    (try clear hb)
    (try clear hb2)
    (try clear hk)
    (try clear hi)
    refine hK.out _ _ ⟨(blk_cell BK184.out 0).trans rfl, (blk_cell BK184.out 1).trans rfl, (blk_cell BK184.out 2).trans rfl, (blk_cell BK185.out 0).trans rfl, (blk_cell BK185.out 1).trans rfl, (blk_cell BK185.out 2).trans rfl⟩ (fun hHeld => ?_)
    clear hK K
    refine norm_ (a' := ?_) ?_ ?_
    rotate_left
    ·show Act.put _ (some 35) _ = _
     simp only [Act.put, List.setIfInBounds_toArray, List.set_cons_zero, List.set_cons_succ, i64_w, i32_w]
     rfl
    refine pure_ (i := 4) (N := some 6) (v := ?_) (a' := ?_) #[true, true, true, true, true] rfl rfl (by kernel_rfl) (fun _ _ _ h => h) (Or.inl ⟨by rfl, ?_⟩) ?_ ?_
    rotate_left
    ·intro w'
     go_simp
     with_reducible rfl
    rotate_left
    ·simp only [Act.put, List.setIfInBounds_toArray, List.set_cons_zero, List.set_cons_succ, i64_w, i32_w]
     rfl
    refine done_ (by kernel_rfl) ?_
    obtain ⟨hcz121_0, hcz121_1, hcz121_2⟩ := cells3 BK185.out
    obtain ⟨hcz122_0, hcz122_1, hcz122_2⟩ := cells3 BK184.out
    try go_wp2_with (first | ((with_reducible refine gate_callee (f := 17) rfl ?_); refine goesL_ (some 39) rfl rfl Try.func17 (by kernel_rfl) rfl #[.agg #[.int .i64 a1_0, .int .i64 a1_1, .int .i64 a1_2], .agg #[.int .i64 a0_0, .int .i64 a0_1, .int .i64 a0_2]] rfl (by (try simp only [List.map_toArray, List.map_cons, List.map_nil]); first | done | rfl | (simp only [List.length_drop, List.length_take]; rfl)) ?_; (with_reducible refine (light_Cos.calls kj5 a1_0 a1_1 a1_2 a0_0 a0_1 a0_2 t194 _ A38.out).mono ?_); rintro e w123 ⟨rfl, hb⟩; refine ⟨_, rfl, ?_⟩; replace BK184 := cB hb BK184; replace BK185 := cB hb BK185; replace HB := Aside0.mk (below_step (HB.out) hb); (try clear hb); (try clear hb2); (try clear hk); (try clear hi); obtain ⟨hcz124_0, hcz124_1, hcz124_2⟩ := cells3 BK184.out) | (go_at_call 17; (with_reducible refine (light_Cos.calls kj5 a0_0 a0_1 a0_2 a0_0 a0_1 a0_2 t195 _ A40.out).mono ?_); rintro e w125 ⟨rfl, hb⟩; replace BK184 := cB hb BK184; replace BK185 := cB hb BK185; replace HB := Aside0.mk (below_step (HB.out) hb); (try clear hb); (try clear hb2); (try clear hk); (try clear hi)))
    go_ret
    exact ⟨by first | rfl | (simp [errW_none, errW_some] <;> rfl) | (simp [*, errW_none, errW_some] <;> rfl), HB.out⟩
   rw [if_neg c39] at H
   have c39b0 : (t187 == t194) = false := beq_eq_false_iff_ne.mpr c39
   have c39b1 : (t187 != t194) = true := bne_iff_ne.mpr c39
   obtain rfl := Option.some.inj H
   try go_wp2
   replace BK184 := Aside0.mk (blk_drew BK184.out)
   replace BK185 := Aside0.mk (blk_drew BK185.out)
   replace HB := Aside0.mk (below_drew1 HB.out)
   refine start_ (n := 5) (S := fun w' => w'.cell? ⟨gb184, 0, none⟩ = some (.int .i64 a0_0) ∧ w'.cell? ⟨gb184, 1, none⟩ = some (.int .i64 a0_1) ∧ w'.cell? ⟨gb184, 2, none⟩ = some (.int .i64 a0_2) ∧ w'.cell? ⟨gb185, 0, none⟩ = some (.int .i64 a1_0) ∧ w'.cell? ⟨gb185, 1, none⟩ = some (.int .i64 a1_1) ∧ w'.cell? ⟨gb185, 2, none⟩ = some (.int .i64 a1_2)) (ds := []) #[false, false, false, false, false] (by kernel_rfl) rfl rfl ⟨(blk_cell BK184.out 0).trans rfl, (blk_cell BK184.out 1).trans rfl, (blk_cell BK184.out 2).trans rfl, (blk_cell BK185.out 0).trans rfl, (blk_cell BK185.out 1).trans rfl, (blk_cell BK185.out 2).trans rfl⟩ (fun hHeld => ?_)
   generalize wc.drew = w126 at BK184 BK185 HB hHeld ⊢
   refine take_ (i := 0) (N := some 32) (v := ?_) (a' := ?_) #[true, false, false, false, false] rfl rfl (by kernel_rfl) (fun _ _ _ h => h) (Or.inl ⟨by rfl, ?_⟩) hHeld ?_ ?_
   rotate_left
   ·rintro w' ⟨s0, s1, s2, s3, s4, s5⟩
    go_simp
    with_reducible rfl
   rotate_left
   ·simp only [Act.put, List.setIfInBounds_toArray, List.set_cons_zero, List.set_cons_succ, i64_w, i32_w]
    rfl
   refine take_ (i := 1) (N := some 33) (v := ?_) (a' := ?_) #[true, true, false, false, false] rfl rfl (by kernel_rfl) (fun _ _ _ h => h) (Or.inl ⟨by rfl, ?_⟩) hHeld ?_ ?_
   rotate_left
   ·rintro w' ⟨s0, s1, s2, s3, s4, s5⟩
    go_simp
    with_reducible rfl
   rotate_left
   ·simp only [Act.put, List.setIfInBounds_toArray, List.set_cons_zero, List.set_cons_succ, i64_w, i32_w]
    rfl
   refine one_ (i := 2) (N := some 34) #[true, true, true, false, false] rfl rfl (by kernel_rfl) (by decide) (fun K hK => ?_)
   refine goes_ Try.func18 (by kernel_rfl) rfl #[.agg #[.int .i64 a1_0, .int .i64 a1_1, .int .i64 a1_2], .int .i64 (-1)] (by rfl) rfl rfl (by (try simp only [List.map_toArray, List.map_cons, List.map_nil]); first | done | rfl | (simp only [List.length_drop, List.length_take]; rfl)) ?_
   with_reducible refine (vec_Scale.calls a1_0 a1_1 a1_2 (-1) t190 t191 t192 _ A36.out).mono ?_
   rintro e w127 ⟨rfl, hb⟩
   refine ⟨_, rfl, ?_⟩
   replace BK184 := cB hb BK184
   replace BK185 := cB hb BK185
   replace HB := Aside0.mk (below_step (HB.out) hb)
   (try clear hb)
   (try clear hb2)
   (try clear hk)
   (try clear hi)
   refine hK.out _ _ ⟨(blk_cell BK184.out 0).trans rfl, (blk_cell BK184.out 1).trans rfl, (blk_cell BK184.out 2).trans rfl, (blk_cell BK185.out 0).trans rfl, (blk_cell BK185.out 1).trans rfl, (blk_cell BK185.out 2).trans rfl⟩ (fun hHeld => ?_)
   clear hK K
   refine norm_ (a' := ?_) ?_ ?_
   rotate_left
   ·show Act.put _ (some 34) _ = _
    simp only [Act.put, List.setIfInBounds_toArray, List.set_cons_zero, List.set_cons_succ, i64_w, i32_w]
    rfl
   refine one_ (i := 3) (N := some 35) #[true, true, true, true, false] rfl rfl (by kernel_rfl) (by decide) (fun K hK => ?_)
   refine goes_ Try.func17 (by kernel_rfl) rfl #[.agg #[.int .i64 a0_0, .int .i64 a0_1, .int .i64 a0_2], .agg #[.int .i64 t190, .int .i64 t191, .int .i64 t192]] (by rfl) rfl rfl (by (try simp only [List.map_toArray, List.map_cons, List.map_nil]); first | done | rfl | (simp only [List.length_drop, List.length_take]; rfl)) ?_
   with_reducible refine (light_Cos.calls kj5 a0_0 a0_1 a0_2 t190 t191 t192 t193 _ A37.out).mono ?_
   rintro e w128 ⟨rfl, hb⟩
   refine ⟨_, rfl, ?_⟩
   replace BK184 := cB hb BK184
   replace BK185 := cB hb BK185
   replace HB := Aside0.mk (below_step (HB.out) hb)
   (try clear hb)
   (try clear hb2)
   (try clear hk)
   (try clear hi)
   refine hK.out _ _ ⟨(blk_cell BK184.out 0).trans rfl, (blk_cell BK184.out 1).trans rfl, (blk_cell BK184.out 2).trans rfl, (blk_cell BK185.out 0).trans rfl, (blk_cell BK185.out 1).trans rfl, (blk_cell BK185.out 2).trans rfl⟩ (fun hHeld => ?_)
   clear hK K
   refine norm_ (a' := ?_) ?_ ?_
   rotate_left
   ·show Act.put _ (some 35) _ = _
    simp only [Act.put, List.setIfInBounds_toArray, List.set_cons_zero, List.set_cons_succ, i64_w, i32_w]
    rfl
   refine pure_ (i := 4) (N := some 6) (v := ?_) (a' := ?_) #[true, true, true, true, true] rfl rfl (by kernel_rfl) (fun _ _ _ h => h) (Or.inl ⟨by rfl, ?_⟩) ?_ ?_
   rotate_left
   ·intro w'
    go_simp
    with_reducible rfl
   rotate_left
   ·simp only [Act.put, List.setIfInBounds_toArray, List.set_cons_zero, List.set_cons_succ, i64_w, i32_w]
    rfl
   refine done_ (by kernel_rfl) ?_
   obtain ⟨hcz129_0, hcz129_1, hcz129_2⟩ := cells3 BK185.out
   obtain ⟨hcz130_0, hcz130_1, hcz130_2⟩ := cells3 BK184.out
   try go_wp2_with (first | ((with_reducible refine gate_callee (f := 17) rfl ?_); refine goesL_ (some 39) rfl rfl Try.func17 (by kernel_rfl) rfl #[.agg #[.int .i64 a1_0, .int .i64 a1_1, .int .i64 a1_2], .agg #[.int .i64 a0_0, .int .i64 a0_1, .int .i64 a0_2]] rfl (by (try simp only [List.map_toArray, List.map_cons, List.map_nil]); first | done | rfl | (simp only [List.length_drop, List.length_take]; rfl)) ?_; (with_reducible refine (light_Cos.calls kj5 a1_0 a1_1 a1_2 a0_0 a0_1 a0_2 t194 _ A38.out).mono ?_); rintro e w131 ⟨rfl, hb⟩; refine ⟨_, rfl, ?_⟩; replace BK184 := cB hb BK184; replace BK185 := cB hb BK185; replace HB := Aside0.mk (below_step (HB.out) hb); (try clear hb); (try clear hb2); (try clear hk); (try clear hi)))
   go_ret
   exact ⟨by first | rfl | (simp [errW_none, errW_some] <;> rfl) | (simp [*, errW_none, errW_some] <;> rfl), HB.out⟩
 replace c4 := Bool.eq_false_iff.mpr c4
 subst c4
 have H1 : (some false) = some r := by rw [if_neg (show ¬ (false = true) by decide)] at H; exact H
 clear H
 have H := H1
 clear H1
 obtain rfl := Option.some.inj H
 go_enter Try.func6, Try.ntmps6
 go_wp2_with (first | ((with_reducible refine gate_dst (N := 2) rfl ?_); refine box_event ?hg (N := 2) ?hd (cs := #[.int .i64 a0_0, .int .i64 a0_1, .int .i64 a0_2]) (t := 26) ?hr ?_; (case hd => rfl); (case hg => rfl); (case hr => first | (go_simp; done) | (go_simp; rfl)); intro gb184 hg w132 hbox hb; have BK184 := Aside0.mk (hbox); have GE184 := Aside0.mk (bG hg (HB.out)); replace HB := Aside0.mk (below_step (HB.out) hb); clear hb hbox hg) | ((with_reducible refine gate_dst (N := 3) rfl ?_); refine box_event ?hg (N := 3) ?hd (cs := #[.int .i64 a1_0, .int .i64 a1_1, .int .i64 a1_2]) (t := 26) ?hr ?_; (case hd => rfl); (case hg => rfl); (case hr => first | (go_simp; done) | (go_simp; rfl)); intro gb185 hg w133 hbox hb; have BK185 := Aside0.mk (hbox); have GE185 := Aside0.mk (bG hg (HB.out)); have NB184_185 := cN hg BK184; have NB185_184 := cM hg BK184; replace BK184 := cB hb BK184; replace HB := Aside0.mk (below_step (HB.out) hb); clear hb hbox hg) | ((with_reducible refine gate_callee (f := 11) rfl ?_); refine goesL_ (some 7) rfl rfl Try.func11 (by kernel_rfl) rfl #[] rfl (by (try simp only [List.map_toArray, List.map_cons, List.map_nil]); first | done | rfl | (simp only [List.length_drop, List.length_take]; rfl)) ?_; (with_reducible refine (relievolaw19_alive.calls k  false _ A3.out).mono ?_); rintro e w134 ⟨rfl, hb⟩; refine ⟨_, rfl, ?_⟩; replace BK184 := cB hb BK184; replace BK185 := cB hb BK185; replace HB := Aside0.mk (below_step (HB.out) hb); (try clear hb); (try clear hb2); (try clear hk); (try clear hi)))
 go_ret
 exact ⟨by first | rfl | (simp [errW_none, errW_some] <;> rfl) | (simp [*, errW_none, errW_some] <;> rfl), HB.out⟩

end Go.Proofs.Ytmhnidmbgicgeaa.G
