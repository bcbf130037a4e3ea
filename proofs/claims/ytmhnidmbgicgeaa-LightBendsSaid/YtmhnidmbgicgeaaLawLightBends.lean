/- For every input the law LightBends answers true and leaves its arguments as they were: the row, out of the walk of the Go text (the G texts) and the plain statement (the Pure text). -/
import Derived.Test.YtmhnidmbgicgeaaRows
import Derived.Test.YtmhnidmbgicgeaaGx21
import Derived.Test.YtmhnidmbgicgeaaPureLightBends
import Derived.Test.YtmhnidmbgicgeaaOpen
import Derived.WalkKit
import Derived.ProofKit
import Derived.OpenShut
import Derived.ShutString
import Derived.ChangeOld
import Derived.Below
import Derived.SizedLaws
namespace Go.Proofs.Ytmhnidmbgicgeaa.lightBends
open Go.ChangeShapes Go.WideShapes Go.ChangeAt Go.RowKit Go.Proofs.FlatOpen
set_option linter.unusedVariables false
theorem own : ownKnob Try.prog.godebug = none := by kernel_rfl
theorem laidOut : laidOutB Try.prog = true := by kernel_rfl
theorem cellTypes26 : Try.prog.cellTypes Try.prog.depth 26 = some [3, 3, 3] := by kernel_rfl
theorem kinds26 : ([3, 3, 3] : List TypeId).map Try.prog.underlying = ([.i64, .i64, .i64] : List IntKind).map (fun k => some (TypeDesc.int k)) := by kernel_rfl
theorem cells26 : Try.prog.cellsOf 26 = ([3, 3, 3] : List TypeId).length := by kernel_rfl
set_option maxRecDepth 100000 in
theorem lifted (os : Os) (started : os.Started) (H : Type) (enc : TypeId × Value → H) :
    ReturnsInHanded {} Try.checked os 5 .any (Rows.lightBendsSpec.pre6 enc Try.prog Try.f5 Rows.lightBendsRow.domain false) (Rows.lightBendsSpec.post enc Try.prog Try.f5 false true false false) := by
  refine returnsInHanded_of_change_sized (C := Try.checked) own started (by kernel_rfl) Try.func5
    (ChangeSpec.witness6 (enc := enc) (C := Try.checked) false ⟨#[], #[.agg #[.int .i64 0, .int .i64 0, .int .i64 0], .agg #[.int .i64 0, .int .i64 0, .int .i64 0], .int .i64 0], []⟩ 8 (by kernel_rfl) (by kernel_rfl) (by kernel_rfl) (by kernel_rfl)) ?_
  intro W base args ds gs before hval0 hW hcnd hsz0 _
  have hval : ∀ (j : Nat) t v, Try.f5.params[j]? = some t → args[j]? = some v → Value.okWide Try.prog W .any base t v := hval0
  have hW' := hW
  obtain ⟨p, q, hA0, hV, rfl, hfz, hnd⟩ := hW
  have hA : DataW.TrodAll enc Try.prog W 0 (fun _ => true) true Try.f5.params.toList args.toList ds p := hA0
  rw [Try.params5] at hA hval
  obtain ⟨v0, vs0, d0, ds0, p0, q0, hargs, rfl, rfl, h0, r0⟩ := trodAll_cons hA
  obtain ⟨v1, vs1, d1, ds1, p1, q1, rfl, rfl, rfl, h1, r1⟩ := trodAll_cons r0
  obtain ⟨v2, vs2, d2, ds2, p2, q2, rfl, rfl, rfl, h2, r2⟩ := trodAll_cons r1
  obtain ⟨rfl, rfl, rfl⟩ := trodAll_nil r2
  obtain rfl : args = #[v0, v1, v2] := by cases args; simp_all
  obtain ⟨rfl, rfl⟩ := trodVars_none hV
  have k0 := h0
  have lt0 : ∀ x ∈ p0, x.block < W.heap.size := by obtain ⟨m, hm⟩ := k0; exact DataW.trod_lt m _ _ _ hm
  obtain ⟨xs0, rfl, hh0⟩ := open_flat [3, 3, 3] [.i64, .i64, .i64] Try.underlying26 cellTypes26 kinds26 cells26 (hval 0 26 v0 rfl rfl)
  obtain ⟨a0_0, a0_1, a0_2, rfl, b0_0, b0_1, b0_2⟩ := three hh0
  have k1 := h1
  have lt1 : ∀ x ∈ p1, x.block < W.heap.size := by obtain ⟨m, hm⟩ := k1; exact DataW.trod_lt m _ _ _ hm
  obtain ⟨xs1, rfl, hh1⟩ := open_flat [3, 3, 3] [.i64, .i64, .i64] Try.underlying26 cellTypes26 kinds26 cells26 (hval 1 26 v1 rfl rfl)
  obtain ⟨a1_0, a1_1, a1_2, rfl, b1_0, b1_1, b1_2⟩ := three hh1
  obtain ⟨a2, rfl, rfl, rfl, w2⟩ := open_int Try.underlying3 (hval 2 3 v2 rfl rfl) h2
  clear hA0 hval0 hsz0
  obtain ⟨k, hk⟩ := Pure.LightBends a0_0 a0_1 a0_2 a1_0 a1_1 a1_2 a2 (has_i64 b0_0) (has_i64 b0_1) (has_i64 b0_2) (has_i64 b1_0) (has_i64 b1_1) (has_i64 b1_2) (wf_i64 w2)
  refine (G.relievolaw19_LightBends.calls k a0_0 a0_1 a0_2 a1_0 a1_1 a1_2 a2 true W hk).mono fun e W' ⟨he, bel⟩ => ?_
  subst he
  exact ⟨_, rfl, _, _, _, [], _, [], hW', trodAll_mk1 (shut_bool Try.underlying4 _), (trodAll_cons_mk (Below.trod laidOut (by kernel_rfl) (of_decide_eq_true (by kernel_rfl)) k0 bel lt0) (trodAll_cons_mk (Below.trod laidOut (by kernel_rfl) (of_decide_eq_true (by kernel_rfl)) k1 bel lt1) (trodAll_cons_mk (shut_int Try.underlying3 w2) trodAll_mk0))), rfl, bel.frame _, fun h => by cases h⟩
theorem over : Rows.lightBendsRow.holds Try.pinned (OpenSpec.ofChange Rows.lightBendsSpec) :=
  OpenClaim.holds_of_wide 5 Try.f5 rfl rfl rfl rfl rfl rfl rfl ⟨rfl, rfl, rfl, rfl, rfl⟩ rfl rfl rfl rfl rfl (by kernel_rfl) Try.func5 (by kernel_rfl)
    (of_decide_eq_true (by kernel_rfl)) (by unfold Func.isWrapper; first | (rw [if_pos (by decide +kernel)]; kernel_rfl) | (rw [if_neg (by decide +kernel)]; exact ⟨rfl, rfl⟩))
    (fun os started H enc _ => lifted os started H enc)
theorem proved : Rows.LightBendsSaid := over
#print axioms proved
end Go.Proofs.Ytmhnidmbgicgeaa.lightBends
namespace Go.Proofs.Ytmhnidmbgicgeaa
/-- The row, under a short name, for the claim. -/
theorem lightBends_holds : Rows.LightBendsSaid := lightBends.proved
end Go.Proofs.Ytmhnidmbgicgeaa
