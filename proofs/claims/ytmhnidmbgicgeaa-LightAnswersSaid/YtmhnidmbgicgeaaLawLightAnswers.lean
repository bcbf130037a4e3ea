/- For every input the law LightAnswers answers true and leaves its arguments as they were: the row, out of the walk of the Go text (the G texts) and the plain statement (the Pure text). -/
import Derived.Test.YtmhnidmbgicgeaaRows
import Derived.Test.YtmhnidmbgicgeaaGx55
import Derived.Test.YtmhnidmbgicgeaaPlainAnswers
import Derived.Test.YtmhnidmbgicgeaaOpen
import Derived.WalkKit
import Derived.ProofKit
import Derived.OpenShut
import Derived.ShutString
import Derived.ChangeOld
import Derived.Below
import Derived.SizedLaws
namespace Go.Proofs.Ytmhnidmbgicgeaa.lightAnswers
open Go.ChangeShapes Go.WideShapes Go.ChangeAt Go.RowKit Go.Proofs.FlatOpen
set_option linter.unusedVariables false
theorem own : ownKnob Try.prog.godebug = none := by kernel_rfl
theorem laidOut : laidOutB Try.prog = true := by kernel_rfl
theorem cellTypes26 : Try.prog.cellTypes Try.prog.depth 26 = some [3, 3, 3] := by kernel_rfl
theorem kinds26 : ([3, 3, 3] : List TypeId).map Try.prog.underlying = ([.i64, .i64, .i64] : List IntKind).map (fun k => some (TypeDesc.int k)) := by kernel_rfl
theorem cells26 : Try.prog.cellsOf 26 = ([3, 3, 3] : List TypeId).length := by kernel_rfl
theorem cellTypes37 : Try.prog.cellTypes Try.prog.depth 37 = some [3, 3, 3] := by kernel_rfl
theorem kinds37 : ([3, 3, 3] : List TypeId).map Try.prog.underlying = ([.i64, .i64, .i64] : List IntKind).map (fun k => some (TypeDesc.int k)) := by kernel_rfl
theorem cells37 : Try.prog.cellsOf 37 = ([3, 3, 3] : List TypeId).length := by kernel_rfl
set_option maxRecDepth 100000 in
theorem lifted (os : Os) (started : os.Started) (H : Type) (enc : TypeId × Value → H) :
    ReturnsInHanded {} Try.checked os 9 .any (Rows.lightAnswersSpec.pre6 enc Try.prog Try.f9 Rows.lightAnswersRow.domain false) (Rows.lightAnswersSpec.post enc Try.prog Try.f9 false true false false) := by
  refine returnsInHanded_of_change_sized (C := Try.checked) own started (by kernel_rfl) Try.func9
    (ChangeSpec.witness6 (enc := enc) (C := Try.checked) false ⟨#[], #[.agg #[.int .i64 0, .int .i64 0, .int .i64 0], .agg #[.int .i64 0, .int .i64 0, .int .i64 0], .int .i64 0, .int .i64 0, .int .i64 0, .agg #[.int .i64 0, .int .i64 0, .int .i64 0], .agg #[.int .i64 0, .int .i64 0, .int .i64 0], .agg #[.int .i64 0, .int .i64 0, .int .i64 0]], []⟩ 8 (by kernel_rfl) (by kernel_rfl) (by kernel_rfl) (by kernel_rfl)) ?_
  intro W base args ds gs before hval0 hW hcnd hsz0 _
  have hval : ∀ (j : Nat) t v, Try.f9.params[j]? = some t → args[j]? = some v → Value.okWide Try.prog W .any base t v := hval0
  have hW' := hW
  obtain ⟨p, q, hA0, hV, rfl, hfz, hnd⟩ := hW
  have hA : DataW.TrodAll enc Try.prog W 0 (fun _ => true) true Try.f9.params.toList args.toList ds p := hA0
  rw [Try.params9] at hA hval
  obtain ⟨v0, vs0, d0, ds0, p0, q0, hargs, rfl, rfl, h0, r0⟩ := trodAll_cons hA
  obtain ⟨v1, vs1, d1, ds1, p1, q1, rfl, rfl, rfl, h1, r1⟩ := trodAll_cons r0
  obtain ⟨v2, vs2, d2, ds2, p2, q2, rfl, rfl, rfl, h2, r2⟩ := trodAll_cons r1
  obtain ⟨v3, vs3, d3, ds3, p3, q3, rfl, rfl, rfl, h3, r3⟩ := trodAll_cons r2
  obtain ⟨v4, vs4, d4, ds4, p4, q4, rfl, rfl, rfl, h4, r4⟩ := trodAll_cons r3
  obtain ⟨v5, vs5, d5, ds5, p5, q5, rfl, rfl, rfl, h5, r5⟩ := trodAll_cons r4
  obtain ⟨v6, vs6, d6, ds6, p6, q6, rfl, rfl, rfl, h6, r6⟩ := trodAll_cons r5
  obtain ⟨v7, vs7, d7, ds7, p7, q7, rfl, rfl, rfl, h7, r7⟩ := trodAll_cons r6
  obtain ⟨rfl, rfl, rfl⟩ := trodAll_nil r7
  obtain rfl : args = #[v0, v1, v2, v3, v4, v5, v6, v7] := by cases args; simp_all
  obtain ⟨rfl, rfl⟩ := trodVars_none hV
  have k0 := h0
  have lt0 : ∀ x ∈ p0, x.block < W.heap.size := by obtain ⟨m, hm⟩ := k0; exact DataW.trod_lt m _ _ _ hm
  obtain ⟨xs0, rfl, hh0⟩ := open_flat [3, 3, 3] [.i64, .i64, .i64] Try.underlying26 cellTypes26 kinds26 cells26 (hval 0 26 v0 rfl rfl)
  obtain ⟨a0_0, a0_1, a0_2, rfl, b0_0, b0_1, b0_2⟩ := three hh0
  have k1 := h1
  have lt1 : ∀ x ∈ p1, x.block < W.heap.size := by obtain ⟨m, hm⟩ := k1; exact DataW.trod_lt m _ _ _ hm
  obtain ⟨xs1, rfl, hh1⟩ := open_flat [3, 3, 3] [.i64, .i64, .i64] Try.underlying26 cellTypes26 kinds26 cells26 (hval 1 26 v1 rfl rfl)
  obtain ⟨a1_0, a1_1, a1_2, rfl, b1_0, b1_1, b1_2⟩ := three hh1
  obtain ⟨a2, rfl, rfl, rfl, w2⟩ := open_int Try.underlying3 (hval 2 3 v2 rfl rfl) h2
  obtain ⟨a3, rfl, rfl, rfl, w3⟩ := open_int Try.underlying3 (hval 3 3 v3 rfl rfl) h3
  obtain ⟨a4, rfl, rfl, rfl, w4⟩ := open_int Try.underlying3 (hval 4 3 v4 rfl rfl) h4
  have k5 := h5
  have lt5 : ∀ x ∈ p5, x.block < W.heap.size := by obtain ⟨m, hm⟩ := k5; exact DataW.trod_lt m _ _ _ hm
  obtain ⟨xs5, rfl, hh5⟩ := open_flat [3, 3, 3] [.i64, .i64, .i64] Try.underlying37 cellTypes37 kinds37 cells37 (hval 5 37 v5 rfl rfl)
  obtain ⟨a5_0, a5_1, a5_2, rfl, b5_0, b5_1, b5_2⟩ := three hh5
  have k6 := h6
  have lt6 : ∀ x ∈ p6, x.block < W.heap.size := by obtain ⟨m, hm⟩ := k6; exact DataW.trod_lt m _ _ _ hm
  obtain ⟨xs6, rfl, hh6⟩ := open_flat [3, 3, 3] [.i64, .i64, .i64] Try.underlying37 cellTypes37 kinds37 cells37 (hval 6 37 v6 rfl rfl)
  obtain ⟨a6_0, a6_1, a6_2, rfl, b6_0, b6_1, b6_2⟩ := three hh6
  have k7 := h7
  have lt7 : ∀ x ∈ p7, x.block < W.heap.size := by obtain ⟨m, hm⟩ := k7; exact DataW.trod_lt m _ _ _ hm
  obtain ⟨xs7, rfl, hh7⟩ := open_flat [3, 3, 3] [.i64, .i64, .i64] Try.underlying37 cellTypes37 kinds37 cells37 (hval 7 37 v7 rfl rfl)
  obtain ⟨a7_0, a7_1, a7_2, rfl, b7_0, b7_1, b7_2⟩ := three hh7
  clear hA0 hval0 hsz0
  obtain ⟨k, hk⟩ := Pure.LightAnswers a0_0 a0_1 a0_2 a1_0 a1_1 a1_2 a2 a3 a4 a5_0 a5_1 a5_2 a6_0 a6_1 a6_2 a7_0 a7_1 a7_2 (has_i64 b0_0) (has_i64 b0_1) (has_i64 b0_2) (has_i64 b1_0) (has_i64 b1_1) (has_i64 b1_2) (wf_i64 w2) (wf_i64 w3) (wf_i64 w4) (has_i64 b5_0) (has_i64 b5_1) (has_i64 b5_2) (has_i64 b6_0) (has_i64 b6_1) (has_i64 b6_2) (has_i64 b7_0) (has_i64 b7_1) (has_i64 b7_2)
  refine (G.relievolaw19_LightAnswers.calls k a0_0 a0_1 a0_2 a1_0 a1_1 a1_2 a2 a3 a4 a5_0 a5_1 a5_2 a6_0 a6_1 a6_2 a7_0 a7_1 a7_2 true W hk).mono fun e W' ⟨he, bel⟩ => ?_
  subst he
  exact ⟨_, rfl, _, _, _, [], _, [], hW', trodAll_mk1 (shut_bool Try.underlying4 _), (trodAll_cons_mk (Below.trod laidOut (by kernel_rfl) (of_decide_eq_true (by kernel_rfl)) k0 bel lt0) (trodAll_cons_mk (Below.trod laidOut (by kernel_rfl) (of_decide_eq_true (by kernel_rfl)) k1 bel lt1) (trodAll_cons_mk (shut_int Try.underlying3 w2) (trodAll_cons_mk (shut_int Try.underlying3 w3) (trodAll_cons_mk (shut_int Try.underlying3 w4) (trodAll_cons_mk (Below.trod laidOut (by kernel_rfl) (of_decide_eq_true (by kernel_rfl)) k5 bel lt5) (trodAll_cons_mk (Below.trod laidOut (by kernel_rfl) (of_decide_eq_true (by kernel_rfl)) k6 bel lt6) (trodAll_cons_mk (Below.trod laidOut (by kernel_rfl) (of_decide_eq_true (by kernel_rfl)) k7 bel lt7) trodAll_mk0)))))))), rfl, bel.frame _, fun h => by cases h⟩
theorem over : Rows.lightAnswersRow.holds Try.pinned (OpenSpec.ofChange Rows.lightAnswersSpec) :=
  OpenClaim.holds_of_wide 9 Try.f9 rfl rfl rfl rfl rfl rfl rfl ⟨rfl, rfl, rfl, rfl, rfl⟩ rfl rfl rfl rfl rfl (by kernel_rfl) Try.func9 (by kernel_rfl)
    (of_decide_eq_true (by kernel_rfl)) (by unfold Func.isWrapper; first | (rw [if_pos (by decide +kernel)]; kernel_rfl) | (rw [if_neg (by decide +kernel)]; exact ⟨rfl, rfl⟩))
    (fun os started H enc _ => lifted os started H enc)
theorem proved : Rows.LightAnswersSaid := over
#print axioms proved
end Go.Proofs.Ytmhnidmbgicgeaa.lightAnswers
namespace Go.Proofs.Ytmhnidmbgicgeaa
/-- The row, under a short name, for the claim. -/
theorem lightAnswers_holds : Rows.LightAnswersSaid := lightAnswers.proved
end Go.Proofs.Ytmhnidmbgicgeaa
