/- For every input the law WideProducts answers true and leaves its arguments as they were: the row, out of the walk of the Go text (the G texts) and the plain statement (the Pure text). -/
import Derived.Test.YtmkdnoikbefimaaRows
import Derived.Test.YtmkdnoikbefimaaGx44
import Derived.Test.YtmkdnoikbefimaaPlainProducts
import Derived.Test.YtmkdnoikbefimaaOpen
import Derived.WalkKit
import Derived.ProofKit
import Derived.OpenShut
import Derived.ShutString
import Derived.ChangeOld
import Derived.Below
import Derived.SizedLaws
namespace Go.Proofs.Ytmkdnoikbefimaa.wideProducts
open Go.ChangeShapes Go.WideShapes Go.ChangeAt Go.RowKit Go.Proofs.FlatOpen
set_option linter.unusedVariables false
theorem own : ownKnob Try.prog.godebug = none := by kernel_rfl
theorem laidOut : laidOutB Try.prog = true := by kernel_rfl
theorem cellTypes23 : Try.prog.cellTypes Try.prog.depth 23 = some [3, 3] := by kernel_rfl
theorem kinds23 : ([3, 3] : List TypeId).map Try.prog.underlying = ([.i64, .i64] : List IntKind).map (fun k => some (TypeDesc.int k)) := by kernel_rfl
theorem cells23 : Try.prog.cellsOf 23 = ([3, 3] : List TypeId).length := by kernel_rfl
theorem cellTypes30 : Try.prog.cellTypes Try.prog.depth 30 = some [2, 28] := by kernel_rfl
theorem kinds30 : ([2, 28] : List TypeId).map Try.prog.underlying = ([.i64, .u64] : List IntKind).map (fun k => some (TypeDesc.int k)) := by kernel_rfl
theorem cells30 : Try.prog.cellsOf 30 = ([2, 28] : List TypeId).length := by kernel_rfl
set_option maxRecDepth 100000 in
theorem lifted (os : Os) (started : os.Started) (H : Type) (enc : TypeId × Value → H) :
    ReturnsInHanded {} Try.checked os 7 .any (Rows.wideProductsSpec.pre6 enc Try.prog Try.f7 Rows.wideProductsRow.domain false) (Rows.wideProductsSpec.post enc Try.prog Try.f7 false true false false) := by
  refine returnsInHanded_of_change_sized (C := Try.checked) own started (by kernel_rfl) Try.func7
    (ChangeSpec.witness6 (enc := enc) (C := Try.checked) false ⟨#[], #[.agg #[.int .i64 0, .int .u64 0], .int .i64 0, .int .i64 0, .agg #[.int .i64 0, .int .i64 0], .agg #[.int .i64 0, .int .i64 0]], []⟩ 8 (by kernel_rfl) (by kernel_rfl) (by kernel_rfl) (by kernel_rfl)) ?_
  intro W base args ds gs before hval0 hW hcnd hsz0 _
  have hval : ∀ (j : Nat) t v, Try.f7.params[j]? = some t → args[j]? = some v → Value.okWide Try.prog W .any base t v := hval0
  have hW' := hW
  obtain ⟨p, q, hA0, hV, rfl, hfz, hnd⟩ := hW
  have hA : DataW.TrodAll enc Try.prog W 0 (fun _ => true) true Try.f7.params.toList args.toList ds p := hA0
  rw [Try.params7] at hA hval
  obtain ⟨v0, vs0, d0, ds0, p0, q0, hargs, rfl, rfl, h0, r0⟩ := trodAll_cons hA
  obtain ⟨v1, vs1, d1, ds1, p1, q1, rfl, rfl, rfl, h1, r1⟩ := trodAll_cons r0
  obtain ⟨v2, vs2, d2, ds2, p2, q2, rfl, rfl, rfl, h2, r2⟩ := trodAll_cons r1
  obtain ⟨v3, vs3, d3, ds3, p3, q3, rfl, rfl, rfl, h3, r3⟩ := trodAll_cons r2
  obtain ⟨v4, vs4, d4, ds4, p4, q4, rfl, rfl, rfl, h4, r4⟩ := trodAll_cons r3
  obtain ⟨rfl, rfl, rfl⟩ := trodAll_nil r4
  obtain rfl : args = #[v0, v1, v2, v3, v4] := by cases args; simp_all
  obtain ⟨rfl, rfl⟩ := trodVars_none hV
  have k0 := h0
  have lt0 : ∀ x ∈ p0, x.block < W.heap.size := by obtain ⟨m, hm⟩ := k0; exact DataW.trod_lt m _ _ _ hm
  obtain ⟨xs0, rfl, hh0⟩ := open_flat [2, 28] [.i64, .u64] Try.underlying30 cellTypes30 kinds30 cells30 (hval 0 30 v0 rfl rfl)
  obtain ⟨a0_0, a0_1, rfl, b0_0, b0_1⟩ := two hh0
  obtain ⟨a1, rfl, rfl, rfl, w1⟩ := open_int Try.underlying3 (hval 1 3 v1 rfl rfl) h1
  obtain ⟨a2, rfl, rfl, rfl, w2⟩ := open_int Try.underlying3 (hval 2 3 v2 rfl rfl) h2
  have k3 := h3
  have lt3 : ∀ x ∈ p3, x.block < W.heap.size := by obtain ⟨m, hm⟩ := k3; exact DataW.trod_lt m _ _ _ hm
  obtain ⟨xs3, rfl, hh3⟩ := open_flat [3, 3] [.i64, .i64] Try.underlying23 cellTypes23 kinds23 cells23 (hval 3 23 v3 rfl rfl)
  obtain ⟨a3_0, a3_1, rfl, b3_0, b3_1⟩ := two hh3
  have k4 := h4
  have lt4 : ∀ x ∈ p4, x.block < W.heap.size := by obtain ⟨m, hm⟩ := k4; exact DataW.trod_lt m _ _ _ hm
  obtain ⟨xs4, rfl, hh4⟩ := open_flat [3, 3] [.i64, .i64] Try.underlying23 cellTypes23 kinds23 cells23 (hval 4 23 v4 rfl rfl)
  obtain ⟨a4_0, a4_1, rfl, b4_0, b4_1⟩ := two hh4
  clear hA0 hval0 hsz0
  obtain ⟨k, hk⟩ := Pure.WideProducts a0_0 a0_1 a1 a2 a3_0 a3_1 a4_0 a4_1 (has_i64 b0_0) (has_u64 b0_1) (wf_i64 w1) (wf_i64 w2) (has_i64 b3_0) (has_i64 b3_1) (has_i64 b4_0) (has_i64 b4_1)
  refine (G.relievolaw01_WideProducts.calls k a0_0 a0_1 a1 a2 a3_0 a3_1 a4_0 a4_1 true W hk).mono fun e W' ⟨he, bel⟩ => ?_
  subst he
  exact ⟨_, rfl, _, _, _, [], _, [], hW', trodAll_mk1 (shut_bool Try.underlying4 _), (trodAll_cons_mk (Below.trod laidOut (by kernel_rfl) (of_decide_eq_true (by kernel_rfl)) k0 bel lt0) (trodAll_cons_mk (shut_int Try.underlying3 w1) (trodAll_cons_mk (shut_int Try.underlying3 w2) (trodAll_cons_mk (Below.trod laidOut (by kernel_rfl) (of_decide_eq_true (by kernel_rfl)) k3 bel lt3) (trodAll_cons_mk (Below.trod laidOut (by kernel_rfl) (of_decide_eq_true (by kernel_rfl)) k4 bel lt4) trodAll_mk0))))), rfl, bel.frame _, fun h => by cases h⟩
theorem over : Rows.wideProductsRow.holds Try.pinned (OpenSpec.ofChange Rows.wideProductsSpec) :=
  OpenClaim.holds_of_wide 7 Try.f7 rfl rfl rfl rfl rfl rfl rfl ⟨rfl, rfl, rfl, rfl, rfl⟩ rfl rfl rfl rfl rfl (by kernel_rfl) Try.func7 (by kernel_rfl)
    (of_decide_eq_true (by kernel_rfl)) (by unfold Func.isWrapper; first | (rw [if_pos (by decide +kernel)]; kernel_rfl) | (rw [if_neg (by decide +kernel)]; exact ⟨rfl, rfl⟩))
    (fun os started H enc _ => lifted os started H enc)
theorem proved : Rows.WideProductsSaid := over
#print axioms proved
end Go.Proofs.Ytmkdnoikbefimaa.wideProducts
namespace Go.Proofs.Ytmkdnoikbefimaa
/-- The row, under a short name, for the claim. -/
theorem wideProducts_holds : Rows.WideProductsSaid := wideProducts.proved
end Go.Proofs.Ytmkdnoikbefimaa
