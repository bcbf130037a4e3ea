/- For every input the law SideMeets answers true and leaves its arguments as they were: the row, out of the walk of the Go text (the G texts) and the plain statement (the Pure text). -/
import Derived.Test.YtfmbophennepdaaRows
import Derived.Test.YtfmbophennepdaaGx57
import Derived.Test.YtfmbophennepdaaPlainMeets
import Derived.Test.YtfmbophennepdaaOpen
import Derived.WalkKit
import Derived.ProofKit
import Derived.OpenShut
import Derived.ShutString
import Derived.ChangeOld
import Derived.Below
import Derived.SizedLaws
namespace Go.Proofs.Ytfmbophennepdaa.sideMeets
open Go.ChangeShapes Go.WideShapes Go.ChangeAt Go.RowKit Go.Proofs.FlatOpen
set_option linter.unusedVariables false
theorem own : ownKnob Try.prog.godebug = none := by kernel_rfl
theorem laidOut : laidOutB Try.prog = true := by kernel_rfl
theorem cellTypes23 : Try.prog.cellTypes Try.prog.depth 23 = some [3, 3, 3] := by kernel_rfl
theorem kinds23 : ([3, 3, 3] : List TypeId).map Try.prog.underlying = ([.i64, .i64, .i64] : List IntKind).map (fun k => some (TypeDesc.int k)) := by kernel_rfl
theorem cells23 : Try.prog.cellsOf 23 = ([3, 3, 3] : List TypeId).length := by kernel_rfl
theorem cellTypes25 : Try.prog.cellTypes Try.prog.depth 25 = some [3, 3, 3, 3, 3, 3, 3, 3, 3] := by kernel_rfl
theorem kinds25 : ([3, 3, 3, 3, 3, 3, 3, 3, 3] : List TypeId).map Try.prog.underlying = ([.i64, .i64, .i64, .i64, .i64, .i64, .i64, .i64, .i64] : List IntKind).map (fun k => some (TypeDesc.int k)) := by kernel_rfl
theorem cells25 : Try.prog.cellsOf 25 = ([3, 3, 3, 3, 3, 3, 3, 3, 3] : List TypeId).length := by kernel_rfl
theorem cellTypes27 : Try.prog.cellTypes Try.prog.depth 27 = some [3, 3] := by kernel_rfl
theorem kinds27 : ([3, 3] : List TypeId).map Try.prog.underlying = ([.i64, .i64] : List IntKind).map (fun k => some (TypeDesc.int k)) := by kernel_rfl
theorem cells27 : Try.prog.cellsOf 27 = ([3, 3] : List TypeId).length := by kernel_rfl
set_option maxRecDepth 100000 in
theorem lifted (os : Os) (started : os.Started) (H : Type) (enc : TypeId × Value → H) :
    ReturnsInHanded {} Try.checked os 3 .any (Rows.sideMeetsSpec.pre6 enc Try.prog Try.f3 Rows.sideMeetsRow.domain false) (Rows.sideMeetsSpec.post enc Try.prog Try.f3 false true false false) := by
  refine returnsInHanded_of_change_sized (C := Try.checked) own started (by kernel_rfl) Try.func3
    (ChangeSpec.witness6 (enc := enc) (C := Try.checked) false ⟨#[], #[.agg #[.int .i64 0, .int .i64 0, .int .i64 0], .agg #[.int .i64 0, .int .i64 0, .int .i64 0], .agg #[.int .i64 0, .int .i64 0, .int .i64 0, .int .i64 0, .int .i64 0, .int .i64 0, .int .i64 0, .int .i64 0, .int .i64 0], .agg #[.int .i64 0, .int .i64 0]], []⟩ 8 (by kernel_rfl) (by kernel_rfl) (by kernel_rfl) (by kernel_rfl)) ?_
  intro W base args ds gs before hval0 hW hcnd hsz0 _
  have hval : ∀ (j : Nat) t v, Try.f3.params[j]? = some t → args[j]? = some v → Value.okWide Try.prog W .any base t v := hval0
  have hW' := hW
  obtain ⟨p, q, hA0, hV, rfl, hfz, hnd⟩ := hW
  have hA : DataW.TrodAll enc Try.prog W 0 (fun _ => true) true Try.f3.params.toList args.toList ds p := hA0
  rw [Try.params3] at hA hval
  obtain ⟨v0, vs0, d0, ds0, p0, q0, hargs, rfl, rfl, h0, r0⟩ := trodAll_cons hA
  obtain ⟨v1, vs1, d1, ds1, p1, q1, rfl, rfl, rfl, h1, r1⟩ := trodAll_cons r0
  obtain ⟨v2, vs2, d2, ds2, p2, q2, rfl, rfl, rfl, h2, r2⟩ := trodAll_cons r1
  obtain ⟨v3, vs3, d3, ds3, p3, q3, rfl, rfl, rfl, h3, r3⟩ := trodAll_cons r2
  obtain ⟨rfl, rfl, rfl⟩ := trodAll_nil r3
  obtain rfl : args = #[v0, v1, v2, v3] := by cases args; simp_all
  obtain ⟨rfl, rfl⟩ := trodVars_none hV
  have k0 := h0
  have lt0 : ∀ x ∈ p0, x.block < W.heap.size := by obtain ⟨m, hm⟩ := k0; exact DataW.trod_lt m _ _ _ hm
  obtain ⟨xs0, rfl, hh0⟩ := open_flat [3, 3, 3] [.i64, .i64, .i64] Try.underlying23 cellTypes23 kinds23 cells23 (hval 0 23 v0 rfl rfl)
  obtain ⟨a0_0, a0_1, a0_2, rfl, b0_0, b0_1, b0_2⟩ := three hh0
  have k1 := h1
  have lt1 : ∀ x ∈ p1, x.block < W.heap.size := by obtain ⟨m, hm⟩ := k1; exact DataW.trod_lt m _ _ _ hm
  obtain ⟨xs1, rfl, hh1⟩ := open_flat [3, 3, 3] [.i64, .i64, .i64] Try.underlying23 cellTypes23 kinds23 cells23 (hval 1 23 v1 rfl rfl)
  obtain ⟨a1_0, a1_1, a1_2, rfl, b1_0, b1_1, b1_2⟩ := three hh1
  have k2 := h2
  have lt2 : ∀ x ∈ p2, x.block < W.heap.size := by obtain ⟨m, hm⟩ := k2; exact DataW.trod_lt m _ _ _ hm
  obtain ⟨xs2, rfl, hh2⟩ := open_flat [3, 3, 3, 3, 3, 3, 3, 3, 3] [.i64, .i64, .i64, .i64, .i64, .i64, .i64, .i64, .i64] Try.underlying25 cellTypes25 kinds25 cells25 (hval 2 25 v2 rfl rfl)
  obtain ⟨a2_0, a2_1, a2_2, a2_3, a2_4, a2_5, a2_6, a2_7, a2_8, rfl, b2_0, b2_1, b2_2, b2_3, b2_4, b2_5, b2_6, b2_7, b2_8⟩ := nine hh2
  have k3 := h3
  have lt3 : ∀ x ∈ p3, x.block < W.heap.size := by obtain ⟨m, hm⟩ := k3; exact DataW.trod_lt m _ _ _ hm
  obtain ⟨xs3, rfl, hh3⟩ := open_flat [3, 3] [.i64, .i64] Try.underlying27 cellTypes27 kinds27 cells27 (hval 3 27 v3 rfl rfl)
  obtain ⟨a3_0, a3_1, rfl, b3_0, b3_1⟩ := two hh3
  clear hA0 hval0 hsz0
  obtain ⟨k, hk⟩ := Pure.SideMeets a0_0 a0_1 a0_2 a1_0 a1_1 a1_2 a2_0 a2_1 a2_2 a2_3 a2_4 a2_5 a2_6 a2_7 a2_8 a3_0 a3_1 (has_i64 b0_0) (has_i64 b0_1) (has_i64 b0_2) (has_i64 b1_0) (has_i64 b1_1) (has_i64 b1_2) (has_i64 b2_0) (has_i64 b2_1) (has_i64 b2_2) (has_i64 b2_3) (has_i64 b2_4) (has_i64 b2_5) (has_i64 b2_6) (has_i64 b2_7) (has_i64 b2_8) (has_i64 b3_0) (has_i64 b3_1)
  refine (G.relievolaw03_SideMeets.calls k a0_0 a0_1 a0_2 a1_0 a1_1 a1_2 a2_0 a2_1 a2_2 a2_3 a2_4 a2_5 a2_6 a2_7 a2_8 a3_0 a3_1 true rfl W hk).mono fun e W' ⟨he, bel⟩ => ?_
  subst he
  exact ⟨_, rfl, _, _, _, [], _, [], hW', trodAll_mk1 (shut_bool Try.underlying4 _), (trodAll_cons_mk (Below.trod laidOut (by kernel_rfl) (of_decide_eq_true (by kernel_rfl)) k0 bel lt0) (trodAll_cons_mk (Below.trod laidOut (by kernel_rfl) (of_decide_eq_true (by kernel_rfl)) k1 bel lt1) (trodAll_cons_mk (Below.trod laidOut (by kernel_rfl) (of_decide_eq_true (by kernel_rfl)) k2 bel lt2) (trodAll_cons_mk (Below.trod laidOut (by kernel_rfl) (of_decide_eq_true (by kernel_rfl)) k3 bel lt3) trodAll_mk0)))), rfl, bel.frame _, fun h => by cases h⟩
theorem over : Rows.sideMeetsRow.holds Try.pinned (OpenSpec.ofChange Rows.sideMeetsSpec) :=
  OpenClaim.holds_of_wide 3 Try.f3 rfl rfl rfl rfl rfl rfl rfl ⟨rfl, rfl, rfl, rfl, rfl⟩ rfl rfl rfl rfl rfl (by kernel_rfl) Try.func3 (by kernel_rfl)
    (of_decide_eq_true (by kernel_rfl)) (by unfold Func.isWrapper; first | (rw [if_pos (by decide +kernel)]; kernel_rfl) | (rw [if_neg (by decide +kernel)]; exact ⟨rfl, rfl⟩))
    (fun os started H enc _ => lifted os started H enc)
theorem proved : Rows.SideMeetsSaid := over
#print axioms proved
end Go.Proofs.Ytfmbophennepdaa.sideMeets
namespace Go.Proofs.Ytfmbophennepdaa
/-- The row, under a short name, for the claim. -/
theorem sideMeets_holds : Rows.SideMeetsSaid := sideMeets.proved
end Go.Proofs.Ytfmbophennepdaa
