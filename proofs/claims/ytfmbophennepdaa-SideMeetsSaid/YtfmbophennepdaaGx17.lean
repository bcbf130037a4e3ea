-- Written by a program of this session (wip/gen), out of the translation; Lean checks it.
import Derived.Test.YtfmbophennepdaaGx0
import Derived.Test.YtfmbophennepdaaGx8
import Derived.Test.YtfmbophennepdaaGx9
import Derived.Test.YtfmbophennepdaaGx14
namespace Go.Proofs.Ytfmbophennepdaa.G
open Go.RowKit Go.Proofs.YtfmbophennepdaaW.PrintWords Go.Proofs.YtfmbophennepdaaW.PrintLast Go.Proofs.YtfmbophennepdaaW.PrintMore
attribute [local go_sem high] idx43_0 idx43_1 idx43_2 wl0 wl1 wl2 wl3 wl4 wl5 tm0_3 tm1_3 tm2_3 tm3_3 tm4_3 tm5_3
attribute [local go_sem] max2_int min2_int max_two min_two max_three min_three max_four min_four   -- for this text's walks alone
set_option linter.unusedVariables false
set_option linter.unusedSimpArgs false

/-! ### side_Side: function 5 -/
def side_Side.f (k : Nat) (a0_0 : Int) (a0_1 : Int) (a0_2 : Int) (a1_0 : Int) (a1_1 : Int) (a1_2 : Int) (a2_0 : Int) (a2_1 : Int) (a2_2 : Int) (a3_0 : Int) (a3_1 : Int) (a3_2 : Int) : Option (Int × Int) := (side_line.f a0_0 a0_1 a0_2 a1_0 a1_1 a1_2).bind fun t210 => (if t210 = true then ((vec_Within.f a2_0 a2_1 a2_2 65536).bind fun t211 => (if t211 = true then ((vec_Within.f a3_0 a3_1 a3_2 65536).bind fun t212 => (if t212 = true then ((side_pass.f k a0_0 a0_1 a0_2 a1_0 a1_1 a1_2 a2_0 a2_1 a2_2 a3_0 a3_1 a3_2).bind fun t213 => (some (t213, 0))) else (some (0, 21)))) else (some (0, 21)))) else (some (0, 21)))
theorem side_Side.mono : ∀ a0 a1 a2 a3 a4 a5 a6 a7 a8 a9 a10 a11 k, LeO (side_Side.f k a0 a1 a2 a3 a4 a5 a6 a7 a8 a9 a10 a11) (side_Side.f (k + 1) a0 a1 a2 a3 a4 a5 a6 a7 a8 a9 a10 a11) := by
  intro a0 a1 a2 a3 a4 a5 a6 a7 a8 a9 a10 a11 k
  unfold side_Side.f
  repeat' first
      | (with_reducible exact side_pass.mono _ _ _ _ _ _ _ _ _ _ _ _ _)
      | (with_reducible exact LeO.refl _)
      | (with_reducible exact LeO.none _)
      | (with_reducible refine LeO.ite ?_ ?_)
      | (with_reducible refine LeO.bind ?_ (fun _ => ?_))
      | exact side_pass.mono _ _ _ _ _ _ _ _ _ _ _ _ _
      | exact LeO.none _
      | refine LeO.ite ?_ ?_
      | refine LeO.bind ?_ (fun _ => ?_)
set_option maxHeartbeats 8000000 in
set_option maxRecDepth 100000 in
theorem side_Side.calls (k : Nat) (a0_0 : Int) (a0_1 : Int) (a0_2 : Int) (a1_0 : Int) (a1_1 : Int) (a1_2 : Int) (a2_0 : Int) (a2_1 : Int) (a2_2 : Int) (a3_0 : Int) (a3_1 : Int) (a3_2 : Int) (r1 : Int) (r2 : Int) (w : World) (h : side_Side.f k a0_0 a0_1 a0_2 a1_0 a1_1 a1_2 a2_0 a2_1 a2_2 a3_0 a3_1 a3_2 = some (r1, r2)) :
    Calls Try.prog 5 #[.agg #[.int .i64 a0_0, .int .i64 a0_1, .int .i64 a0_2], .agg #[.int .i64 a1_0, .int .i64 a1_1, .int .i64 a1_2], .agg #[.int .i64 a2_0, .int .i64 a2_1, .int .i64 a2_2], .agg #[.int .i64 a3_0, .int .i64 a3_1, .int .i64 a3_2]] w fun e w' => e = .returned (.tuple #[.int .i64 r1, .int .i64 r2]) ∧ Below w.heap.size w w' := by
 have hu23 := Try.underlying23
 have HB := Aside0.mk (Below.refl w.heap.size w)
 have H : ((side_line.f a0_0 a0_1 a0_2 a1_0 a1_1 a1_2).bind fun t210 => (if t210 = true then ((vec_Within.f a2_0 a2_1 a2_2 65536).bind fun t211 => (if t211 = true then ((vec_Within.f a3_0 a3_1 a3_2 65536).bind fun t212 => (if t212 = true then ((side_pass.f k a0_0 a0_1 a0_2 a1_0 a1_1 a1_2 a2_0 a2_1 a2_2 a3_0 a3_1 a3_2).bind fun t213 => (some (t213, 0))) else (some (0, 21)))) else (some (0, 21)))) else (some (0, 21)))) = some (r1, r2) := h
 clear h
 replace H := Option.bind_eq_some_iff.mp H
 obtain ⟨t210, A50, H⟩ := H
 replace H : (if t210 = true then ((vec_Within.f a2_0 a2_1 a2_2 65536).bind fun t211 => (if t211 = true then ((vec_Within.f a3_0 a3_1 a3_2 65536).bind fun t212 => (if t212 = true then ((side_pass.f k a0_0 a0_1 a0_2 a1_0 a1_1 a1_2 a2_0 a2_1 a2_2 a3_0 a3_1 a3_2).bind fun t213 => (some (t213, 0))) else (some (0, 21)))) else (some (0, 21)))) else (some (0, 21))) = some (r1, r2) := H
 have A5 := Aside0.mk A50
 clear A50
 by_cases c6 : t210 = true
 ·subst c6
  have H1 : ((vec_Within.f a2_0 a2_1 a2_2 65536).bind fun t211 => (if t211 = true then ((vec_Within.f a3_0 a3_1 a3_2 65536).bind fun t212 => (if t212 = true then ((side_pass.f k a0_0 a0_1 a0_2 a1_0 a1_1 a1_2 a2_0 a2_1 a2_2 a3_0 a3_1 a3_2).bind fun t213 => (some (t213, 0))) else (some (0, 21)))) else (some (0, 21)))) = some (r1, r2) := by rw [if_pos rfl] at H; exact H
  clear H
  have H := H1
  clear H1
  replace H := Option.bind_eq_some_iff.mp H
  obtain ⟨t211, A70, H⟩ := H
  replace H : (if t211 = true then ((vec_Within.f a3_0 a3_1 a3_2 65536).bind fun t212 => (if t212 = true then ((side_pass.f k a0_0 a0_1 a0_2 a1_0 a1_1 a1_2 a2_0 a2_1 a2_2 a3_0 a3_1 a3_2).bind fun t213 => (some (t213, 0))) else (some (0, 21)))) else (some (0, 21))) = some (r1, r2) := H
  have A7 := Aside0.mk A70
  clear A70
  by_cases c8 : t211 = true
  ·subst c8
   have H1 : ((vec_Within.f a3_0 a3_1 a3_2 65536).bind fun t212 => (if t212 = true then ((side_pass.f k a0_0 a0_1 a0_2 a1_0 a1_1 a1_2 a2_0 a2_1 a2_2 a3_0 a3_1 a3_2).bind fun t213 => (some (t213, 0))) else (some (0, 21)))) = some (r1, r2) := by rw [if_pos rfl] at H; exact H
   clear H
   have H := H1
   clear H1
   replace H := Option.bind_eq_some_iff.mp H
   obtain ⟨t212, A90, H⟩ := H
   replace H : (if t212 = true then ((side_pass.f k a0_0 a0_1 a0_2 a1_0 a1_1 a1_2 a2_0 a2_1 a2_2 a3_0 a3_1 a3_2).bind fun t213 => (some (t213, 0))) else (some (0, 21))) = some (r1, r2) := H
   have A9 := Aside0.mk A90
   clear A90
   by_cases c10 : t212 = true
   ·subst c10
    have H1 : ((side_pass.f k a0_0 a0_1 a0_2 a1_0 a1_1 a1_2 a2_0 a2_1 a2_2 a3_0 a3_1 a3_2).bind fun t213 => (some (t213, 0))) = some (r1, r2) := by rw [if_pos rfl] at H; exact H
    clear H
    have H := H1
    clear H1
    replace H := Option.bind_eq_some_iff.mp H
    obtain ⟨t213, A110, H⟩ := H
    replace H : (some (t213, 0)) = some (r1, r2) := H
    have A11 := Aside0.mk A110
    clear A110
    simp only [Option.some.injEq, Prod.mk.injEq] at H
    obtain ⟨rfl, rfl⟩ := H
    go_enter Try.func5, Try.ntmps5
    go_wp2_with (first | ((with_reducible refine gate_dst (N := 4) rfl ?_); refine box_event ?hg (N := 4) ?hd (cs := #[.int .i64 a0_0, .int .i64 a0_1, .int .i64 a0_2]) (t := 23) ?hr ?_; (case hd => rfl); (case hg => rfl); (case hr => first | (go_simp; done) | (go_simp; rfl)); intro gb206 hg w12 hbox hb; have BK206 := Aside0.mk (hbox); have GE206 := Aside0.mk (bG hg (HB.out)); replace HB := Aside0.mk (below_step (HB.out) hb); clear hb hbox hg) | ((with_reducible refine gate_dst (N := 5) rfl ?_); refine box_event ?hg (N := 5) ?hd (cs := #[.int .i64 a1_0, .int .i64 a1_1, .int .i64 a1_2]) (t := 23) ?hr ?_; (case hd => rfl); (case hg => rfl); (case hr => first | (go_simp; done) | (go_simp; rfl)); intro gb207 hg w13 hbox hb; have BK207 := Aside0.mk (hbox); have GE207 := Aside0.mk (bG hg (HB.out)); have NB206_207 := cN hg BK206; have NB207_206 := cM hg BK206; replace BK206 := cB hb BK206; replace HB := Aside0.mk (below_step (HB.out) hb); clear hb hbox hg) | ((with_reducible refine gate_dst (N := 6) rfl ?_); refine box_event ?hg (N := 6) ?hd (cs := #[.int .i64 a2_0, .int .i64 a2_1, .int .i64 a2_2]) (t := 23) ?hr ?_; (case hd => rfl); (case hg => rfl); (case hr => first | (go_simp; done) | (go_simp; rfl)); intro gb208 hg w14 hbox hb; have BK208 := Aside0.mk (hbox); have GE208 := Aside0.mk (bG hg (HB.out)); have NB206_208 := cN hg BK206; have NB208_206 := cM hg BK206; have NB207_208 := cN hg BK207; have NB208_207 := cM hg BK207; replace BK206 := cB hb BK206; replace BK207 := cB hb BK207; replace HB := Aside0.mk (below_step (HB.out) hb); clear hb hbox hg) | ((with_reducible refine gate_dst (N := 7) rfl ?_); refine box_event ?hg (N := 7) ?hd (cs := #[.int .i64 a3_0, .int .i64 a3_1, .int .i64 a3_2]) (t := 23) ?hr ?_; (case hd => rfl); (case hg => rfl); (case hr => first | (go_simp; done) | (go_simp; rfl)); intro gb209 hg w15 hbox hb; have BK209 := Aside0.mk (hbox); have GE209 := Aside0.mk (bG hg (HB.out)); have NB206_209 := cN hg BK206; have NB209_206 := cM hg BK206; have NB207_209 := cN hg BK207; have NB209_207 := cM hg BK207; have NB208_209 := cN hg BK208; have NB209_208 := cM hg BK208; replace BK206 := cB hb BK206; replace BK207 := cB hb BK207; replace BK208 := cB hb BK208; replace HB := Aside0.mk (below_step (HB.out) hb); clear hb hbox hg; obtain ⟨hcz16_0, hcz16_1, hcz16_2⟩ := cells3 BK206.out; obtain ⟨hcz17_0, hcz17_1, hcz17_2⟩ := cells3 BK207.out) | ((with_reducible refine gate_callee (f := 13) rfl ?_); refine goesL_ (some 12) rfl rfl Try.func13 (by kernel_rfl) rfl #[.agg #[.int .i64 a0_0, .int .i64 a0_1, .int .i64 a0_2], .agg #[.int .i64 a1_0, .int .i64 a1_1, .int .i64 a1_2]] rfl (by (try simp only [List.map_toArray, List.map_cons, List.map_nil]); first | done | rfl | (simp only [List.length_drop, List.length_take]; rfl)) ?_; (with_reducible refine (side_line.calls a0_0 a0_1 a0_2 a1_0 a1_1 a1_2 true _ A5.out).mono ?_); rintro e w18 ⟨rfl, hb⟩; refine ⟨_, rfl, ?_⟩; replace BK206 := cB hb BK206; replace BK207 := cB hb BK207; replace BK208 := cB hb BK208; replace BK209 := cB hb BK209; replace HB := Aside0.mk (below_step (HB.out) hb); (try clear hb); (try clear hb2); (try clear hk); (try clear hi); obtain ⟨hcz19_0, hcz19_1, hcz19_2⟩ := cells3 BK208.out) | (go_at_call 14; (with_reducible refine (vec_Within.calls a2_0 a2_1 a2_2 65536 true _ A7.out).mono ?_); rintro e w20 ⟨rfl, hb⟩; replace BK206 := cB hb BK206; replace BK207 := cB hb BK207; replace BK208 := cB hb BK208; replace BK209 := cB hb BK209; replace HB := Aside0.mk (below_step (HB.out) hb); (try clear hb); (try clear hb2); (try clear hk); (try clear hi); obtain ⟨hcz21_0, hcz21_1, hcz21_2⟩ := cells3 BK209.out) | (go_at_call 14; (with_reducible refine (vec_Within.calls a3_0 a3_1 a3_2 65536 true _ A9.out).mono ?_); rintro e w22 ⟨rfl, hb⟩; replace BK206 := cB hb BK206; replace BK207 := cB hb BK207; replace BK208 := cB hb BK208; replace BK209 := cB hb BK209; replace HB := Aside0.mk (below_step (HB.out) hb); (try clear hb); (try clear hb2); (try clear hk); (try clear hi); obtain ⟨hcz23_0, hcz23_1, hcz23_2⟩ := cells3 BK206.out; obtain ⟨hcz24_0, hcz24_1, hcz24_2⟩ := cells3 BK207.out; obtain ⟨hcz25_0, hcz25_1, hcz25_2⟩ := cells3 BK208.out; obtain ⟨hcz26_0, hcz26_1, hcz26_2⟩ := cells3 BK209.out) | ((with_reducible refine gate_callee (f := 15) rfl ?_); refine goesL_ (some 28) rfl rfl Try.func15 (by kernel_rfl) rfl #[.agg #[.int .i64 a0_0, .int .i64 a0_1, .int .i64 a0_2], .agg #[.int .i64 a1_0, .int .i64 a1_1, .int .i64 a1_2], .agg #[.int .i64 a2_0, .int .i64 a2_1, .int .i64 a2_2], .agg #[.int .i64 a3_0, .int .i64 a3_1, .int .i64 a3_2]] rfl (by (try simp only [List.map_toArray, List.map_cons, List.map_nil]); first | done | rfl | (simp only [List.length_drop, List.length_take]; rfl)) ?_; (with_reducible refine (side_pass.calls k a0_0 a0_1 a0_2 a1_0 a1_1 a1_2 a2_0 a2_1 a2_2 a3_0 a3_1 a3_2 t213 _ A11.out).mono ?_); rintro e w27 ⟨rfl, hb⟩; refine ⟨_, rfl, ?_⟩; replace BK206 := cB hb BK206; replace BK207 := cB hb BK207; replace BK208 := cB hb BK208; replace BK209 := cB hb BK209; replace HB := Aside0.mk (below_step (HB.out) hb); (try clear hb); (try clear hb2); (try clear hk); (try clear hi)))
    go_ret2
    exact ⟨by first | rfl | (simp [errW_none, errW_some] <;> rfl) | (simp [*, errW_none, errW_some] <;> rfl), HB.out⟩
   replace c10 := Bool.eq_false_iff.mpr c10
   subst c10
   have H1 : (some (0, 21)) = some (r1, r2) := by rw [if_neg (show ¬ (false = true) by decide)] at H; exact H
   clear H
   have H := H1
   clear H1
   simp only [Option.some.injEq, Prod.mk.injEq] at H
   obtain ⟨rfl, rfl⟩ := H
   go_enter Try.func5, Try.ntmps5
   go_wp2_with (first | ((with_reducible refine gate_dst (N := 4) rfl ?_); refine box_event ?hg (N := 4) ?hd (cs := #[.int .i64 a0_0, .int .i64 a0_1, .int .i64 a0_2]) (t := 23) ?hr ?_; (case hd => rfl); (case hg => rfl); (case hr => first | (go_simp; done) | (go_simp; rfl)); intro gb206 hg w28 hbox hb; have BK206 := Aside0.mk (hbox); have GE206 := Aside0.mk (bG hg (HB.out)); replace HB := Aside0.mk (below_step (HB.out) hb); clear hb hbox hg) | ((with_reducible refine gate_dst (N := 5) rfl ?_); refine box_event ?hg (N := 5) ?hd (cs := #[.int .i64 a1_0, .int .i64 a1_1, .int .i64 a1_2]) (t := 23) ?hr ?_; (case hd => rfl); (case hg => rfl); (case hr => first | (go_simp; done) | (go_simp; rfl)); intro gb207 hg w29 hbox hb; have BK207 := Aside0.mk (hbox); have GE207 := Aside0.mk (bG hg (HB.out)); have NB206_207 := cN hg BK206; have NB207_206 := cM hg BK206; replace BK206 := cB hb BK206; replace HB := Aside0.mk (below_step (HB.out) hb); clear hb hbox hg) | ((with_reducible refine gate_dst (N := 6) rfl ?_); refine box_event ?hg (N := 6) ?hd (cs := #[.int .i64 a2_0, .int .i64 a2_1, .int .i64 a2_2]) (t := 23) ?hr ?_; (case hd => rfl); (case hg => rfl); (case hr => first | (go_simp; done) | (go_simp; rfl)); intro gb208 hg w30 hbox hb; have BK208 := Aside0.mk (hbox); have GE208 := Aside0.mk (bG hg (HB.out)); have NB206_208 := cN hg BK206; have NB208_206 := cM hg BK206; have NB207_208 := cN hg BK207; have NB208_207 := cM hg BK207; replace BK206 := cB hb BK206; replace BK207 := cB hb BK207; replace HB := Aside0.mk (below_step (HB.out) hb); clear hb hbox hg) | ((with_reducible refine gate_dst (N := 7) rfl ?_); refine box_event ?hg (N := 7) ?hd (cs := #[.int .i64 a3_0, .int .i64 a3_1, .int .i64 a3_2]) (t := 23) ?hr ?_; (case hd => rfl); (case hg => rfl); (case hr => first | (go_simp; done) | (go_simp; rfl)); intro gb209 hg w31 hbox hb; have BK209 := Aside0.mk (hbox); have GE209 := Aside0.mk (bG hg (HB.out)); have NB206_209 := cN hg BK206; have NB209_206 := cM hg BK206; have NB207_209 := cN hg BK207; have NB209_207 := cM hg BK207; have NB208_209 := cN hg BK208; have NB209_208 := cM hg BK208; replace BK206 := cB hb BK206; replace BK207 := cB hb BK207; replace BK208 := cB hb BK208; replace HB := Aside0.mk (below_step (HB.out) hb); clear hb hbox hg; obtain ⟨hcz32_0, hcz32_1, hcz32_2⟩ := cells3 BK206.out; obtain ⟨hcz33_0, hcz33_1, hcz33_2⟩ := cells3 BK207.out) | ((with_reducible refine gate_callee (f := 13) rfl ?_); refine goesL_ (some 12) rfl rfl Try.func13 (by kernel_rfl) rfl #[.agg #[.int .i64 a0_0, .int .i64 a0_1, .int .i64 a0_2], .agg #[.int .i64 a1_0, .int .i64 a1_1, .int .i64 a1_2]] rfl (by (try simp only [List.map_toArray, List.map_cons, List.map_nil]); first | done | rfl | (simp only [List.length_drop, List.length_take]; rfl)) ?_; (with_reducible refine (side_line.calls a0_0 a0_1 a0_2 a1_0 a1_1 a1_2 true _ A5.out).mono ?_); rintro e w34 ⟨rfl, hb⟩; refine ⟨_, rfl, ?_⟩; replace BK206 := cB hb BK206; replace BK207 := cB hb BK207; replace BK208 := cB hb BK208; replace BK209 := cB hb BK209; replace HB := Aside0.mk (below_step (HB.out) hb); (try clear hb); (try clear hb2); (try clear hk); (try clear hi); obtain ⟨hcz35_0, hcz35_1, hcz35_2⟩ := cells3 BK208.out) | (go_at_call 14; (with_reducible refine (vec_Within.calls a2_0 a2_1 a2_2 65536 true _ A7.out).mono ?_); rintro e w36 ⟨rfl, hb⟩; replace BK206 := cB hb BK206; replace BK207 := cB hb BK207; replace BK208 := cB hb BK208; replace BK209 := cB hb BK209; replace HB := Aside0.mk (below_step (HB.out) hb); (try clear hb); (try clear hb2); (try clear hk); (try clear hi); obtain ⟨hcz37_0, hcz37_1, hcz37_2⟩ := cells3 BK209.out) | (go_at_call 14; (with_reducible refine (vec_Within.calls a3_0 a3_1 a3_2 65536 false _ A9.out).mono ?_); rintro e w38 ⟨rfl, hb⟩; replace BK206 := cB hb BK206; replace BK207 := cB hb BK207; replace BK208 := cB hb BK208; replace BK209 := cB hb BK209; replace HB := Aside0.mk (below_step (HB.out) hb); (try clear hb); (try clear hb2); (try clear hk); (try clear hi)))
   go_ret2
   exact ⟨by first | rfl | (simp [errW_none, errW_some] <;> rfl) | (simp [*, errW_none, errW_some] <;> rfl), HB.out⟩
  replace c8 := Bool.eq_false_iff.mpr c8
  subst c8
  have H1 : (some (0, 21)) = some (r1, r2) := by rw [if_neg (show ¬ (false = true) by decide)] at H; exact H
  clear H
  have H := H1
  clear H1
  simp only [Option.some.injEq, Prod.mk.injEq] at H
  obtain ⟨rfl, rfl⟩ := H
  go_enter Try.func5, Try.ntmps5
  go_wp2_with (first | ((with_reducible refine gate_dst (N := 4) rfl ?_); refine box_event ?hg (N := 4) ?hd (cs := #[.int .i64 a0_0, .int .i64 a0_1, .int .i64 a0_2]) (t := 23) ?hr ?_; (case hd => rfl); (case hg => rfl); (case hr => first | (go_simp; done) | (go_simp; rfl)); intro gb206 hg w39 hbox hb; have BK206 := Aside0.mk (hbox); have GE206 := Aside0.mk (bG hg (HB.out)); replace HB := Aside0.mk (below_step (HB.out) hb); clear hb hbox hg) | ((with_reducible refine gate_dst (N := 5) rfl ?_); refine box_event ?hg (N := 5) ?hd (cs := #[.int .i64 a1_0, .int .i64 a1_1, .int .i64 a1_2]) (t := 23) ?hr ?_; (case hd => rfl); (case hg => rfl); (case hr => first | (go_simp; done) | (go_simp; rfl)); intro gb207 hg w40 hbox hb; have BK207 := Aside0.mk (hbox); have GE207 := Aside0.mk (bG hg (HB.out)); have NB206_207 := cN hg BK206; have NB207_206 := cM hg BK206; replace BK206 := cB hb BK206; replace HB := Aside0.mk (below_step (HB.out) hb); clear hb hbox hg) | ((with_reducible refine gate_dst (N := 6) rfl ?_); refine box_event ?hg (N := 6) ?hd (cs := #[.int .i64 a2_0, .int .i64 a2_1, .int .i64 a2_2]) (t := 23) ?hr ?_; (case hd => rfl); (case hg => rfl); (case hr => first | (go_simp; done) | (go_simp; rfl)); intro gb208 hg w41 hbox hb; have BK208 := Aside0.mk (hbox); have GE208 := Aside0.mk (bG hg (HB.out)); have NB206_208 := cN hg BK206; have NB208_206 := cM hg BK206; have NB207_208 := cN hg BK207; have NB208_207 := cM hg BK207; replace BK206 := cB hb BK206; replace BK207 := cB hb BK207; replace HB := Aside0.mk (below_step (HB.out) hb); clear hb hbox hg) | ((with_reducible refine gate_dst (N := 7) rfl ?_); refine box_event ?hg (N := 7) ?hd (cs := #[.int .i64 a3_0, .int .i64 a3_1, .int .i64 a3_2]) (t := 23) ?hr ?_; (case hd => rfl); (case hg => rfl); (case hr => first | (go_simp; done) | (go_simp; rfl)); intro gb209 hg w42 hbox hb; have BK209 := Aside0.mk (hbox); have GE209 := Aside0.mk (bG hg (HB.out)); have NB206_209 := cN hg BK206; have NB209_206 := cM hg BK206; have NB207_209 := cN hg BK207; have NB209_207 := cM hg BK207; have NB208_209 := cN hg BK208; have NB209_208 := cM hg BK208; replace BK206 := cB hb BK206; replace BK207 := cB hb BK207; replace BK208 := cB hb BK208; replace HB := Aside0.mk (below_step (HB.out) hb); clear hb hbox hg; obtain ⟨hcz43_0, hcz43_1, hcz43_2⟩ := cells3 BK206.out; obtain ⟨hcz44_0, hcz44_1, hcz44_2⟩ := cells3 BK207.out) | ((with_reducible refine gate_callee (f := 13) rfl ?_); refine goesL_ (some 12) rfl rfl Try.func13 (by kernel_rfl) rfl #[.agg #[.int .i64 a0_0, .int .i64 a0_1, .int .i64 a0_2], .agg #[.int .i64 a1_0, .int .i64 a1_1, .int .i64 a1_2]] rfl (by (try simp only [List.map_toArray, List.map_cons, List.map_nil]); first | done | rfl | (simp only [List.length_drop, List.length_take]; rfl)) ?_; (with_reducible refine (side_line.calls a0_0 a0_1 a0_2 a1_0 a1_1 a1_2 true _ A5.out).mono ?_); rintro e w45 ⟨rfl, hb⟩; refine ⟨_, rfl, ?_⟩; replace BK206 := cB hb BK206; replace BK207 := cB hb BK207; replace BK208 := cB hb BK208; replace BK209 := cB hb BK209; replace HB := Aside0.mk (below_step (HB.out) hb); (try clear hb); (try clear hb2); (try clear hk); (try clear hi); obtain ⟨hcz46_0, hcz46_1, hcz46_2⟩ := cells3 BK208.out) | (go_at_call 14; (with_reducible refine (vec_Within.calls a2_0 a2_1 a2_2 65536 false _ A7.out).mono ?_); rintro e w47 ⟨rfl, hb⟩; replace BK206 := cB hb BK206; replace BK207 := cB hb BK207; replace BK208 := cB hb BK208; replace BK209 := cB hb BK209; replace HB := Aside0.mk (below_step (HB.out) hb); (try clear hb); (try clear hb2); (try clear hk); (try clear hi)))
  go_ret2
  exact ⟨by first | rfl | (simp [errW_none, errW_some] <;> rfl) | (simp [*, errW_none, errW_some] <;> rfl), HB.out⟩
 replace c6 := Bool.eq_false_iff.mpr c6
 subst c6
 have H1 : (some (0, 21)) = some (r1, r2) := by rw [if_neg (show ¬ (false = true) by decide)] at H; exact H
 clear H
 have H := H1
 clear H1
 simp only [Option.some.injEq, Prod.mk.injEq] at H
 obtain ⟨rfl, rfl⟩ := H
 go_enter Try.func5, Try.ntmps5
 go_wp2_with (first | ((with_reducible refine gate_dst (N := 4) rfl ?_); refine box_event ?hg (N := 4) ?hd (cs := #[.int .i64 a0_0, .int .i64 a0_1, .int .i64 a0_2]) (t := 23) ?hr ?_; (case hd => rfl); (case hg => rfl); (case hr => first | (go_simp; done) | (go_simp; rfl)); intro gb206 hg w48 hbox hb; have BK206 := Aside0.mk (hbox); have GE206 := Aside0.mk (bG hg (HB.out)); replace HB := Aside0.mk (below_step (HB.out) hb); clear hb hbox hg) | ((with_reducible refine gate_dst (N := 5) rfl ?_); refine box_event ?hg (N := 5) ?hd (cs := #[.int .i64 a1_0, .int .i64 a1_1, .int .i64 a1_2]) (t := 23) ?hr ?_; (case hd => rfl); (case hg => rfl); (case hr => first | (go_simp; done) | (go_simp; rfl)); intro gb207 hg w49 hbox hb; have BK207 := Aside0.mk (hbox); have GE207 := Aside0.mk (bG hg (HB.out)); have NB206_207 := cN hg BK206; have NB207_206 := cM hg BK206; replace BK206 := cB hb BK206; replace HB := Aside0.mk (below_step (HB.out) hb); clear hb hbox hg) | ((with_reducible refine gate_dst (N := 6) rfl ?_); refine box_event ?hg (N := 6) ?hd (cs := #[.int .i64 a2_0, .int .i64 a2_1, .int .i64 a2_2]) (t := 23) ?hr ?_; (case hd => rfl); (case hg => rfl); (case hr => first | (go_simp; done) | (go_simp; rfl)); intro gb208 hg w50 hbox hb; have BK208 := Aside0.mk (hbox); have GE208 := Aside0.mk (bG hg (HB.out)); have NB206_208 := cN hg BK206; have NB208_206 := cM hg BK206; have NB207_208 := cN hg BK207; have NB208_207 := cM hg BK207; replace BK206 := cB hb BK206; replace BK207 := cB hb BK207; replace HB := Aside0.mk (below_step (HB.out) hb); clear hb hbox hg) | ((with_reducible refine gate_dst (N := 7) rfl ?_); refine box_event ?hg (N := 7) ?hd (cs := #[.int .i64 a3_0, .int .i64 a3_1, .int .i64 a3_2]) (t := 23) ?hr ?_; (case hd => rfl); (case hg => rfl); (case hr => first | (go_simp; done) | (go_simp; rfl)); intro gb209 hg w51 hbox hb; have BK209 := Aside0.mk (hbox); have GE209 := Aside0.mk (bG hg (HB.out)); have NB206_209 := cN hg BK206; have NB209_206 := cM hg BK206; have NB207_209 := cN hg BK207; have NB209_207 := cM hg BK207; have NB208_209 := cN hg BK208; have NB209_208 := cM hg BK208; replace BK206 := cB hb BK206; replace BK207 := cB hb BK207; replace BK208 := cB hb BK208; replace HB := Aside0.mk (below_step (HB.out) hb); clear hb hbox hg; obtain ⟨hcz52_0, hcz52_1, hcz52_2⟩ := cells3 BK206.out; obtain ⟨hcz53_0, hcz53_1, hcz53_2⟩ := cells3 BK207.out) | ((with_reducible refine gate_callee (f := 13) rfl ?_); refine goesL_ (some 12) rfl rfl Try.func13 (by kernel_rfl) rfl #[.agg #[.int .i64 a0_0, .int .i64 a0_1, .int .i64 a0_2], .agg #[.int .i64 a1_0, .int .i64 a1_1, .int .i64 a1_2]] rfl (by (try simp only [List.map_toArray, List.map_cons, List.map_nil]); first | done | rfl | (simp only [List.length_drop, List.length_take]; rfl)) ?_; (with_reducible refine (side_line.calls a0_0 a0_1 a0_2 a1_0 a1_1 a1_2 false _ A5.out).mono ?_); rintro e w54 ⟨rfl, hb⟩; refine ⟨_, rfl, ?_⟩; replace BK206 := cB hb BK206; replace BK207 := cB hb BK207; replace BK208 := cB hb BK208; replace BK209 := cB hb BK209; replace HB := Aside0.mk (below_step (HB.out) hb); (try clear hb); (try clear hb2); (try clear hk); (try clear hi)))
 go_ret2
 exact ⟨by first | rfl | (simp [errW_none, errW_some] <;> rfl) | (simp [*, errW_none, errW_some] <;> rfl), HB.out⟩

end Go.Proofs.Ytfmbophennepdaa.G
