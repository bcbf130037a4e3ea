/- A row of whole numbers without one of them. -/
import Derived.Test.YtfhjdhhflpekiaaCNew
import Derived.Test.YtfhjdhhflpekiaaGx19
namespace Go.Proofs.Ytfhjdhhflpekiaa.G
open Go.RowKit Go.Proofs.Cache Go.Proofs.YtfhjdhhflpekiaaW.PrintWords Go.Proofs.YtfhjdhhflpekiaaW.PrintLast Go.Proofs.YtfhjdhhflpekiaaW.PrintMore
set_option linter.unusedVariables false
set_option linter.unusedSimpArgs false
def RowPost (l : List Int) (w : World) (e : Ending) (w' : World) : Prop :=
  ∃ v, e = .returned v ∧ Kd.R (Kd.int .i64) 3 w' w.heap.size (fun _ => True) v l ∧ Below w.heap.size w w'
set_option maxHeartbeats 1000000 in
set_option maxRecDepth 100000 in
theorem without.calls (A : Option Addr) (l : List Int) (c k : Nat) (w : World) (hC : Kd.C (Kd.int .i64) w A l.length l) (hc : l.length ≤ c) (hl : l.length ≤ 1000000) (hk : k < l.length) : Calls Try.prog 25 #[.slice A l.length c, .int .i64 k] w (RowPost (l.eraseIdx k) w) := by
  obtain ⟨i0, hi0, _, hsz0, _⟩ := info_parts info3
  obtain ⟨kk, hkk⟩ : ∃ kk : Int, (k : Int) + 1 = kk := ⟨_, rfl⟩
  have hw : IntKind.i64.wrap ((k : Int) + 1) = kk := by rw [IntKind.wrap_i64]; omega
  obtain ⟨T1, T2, T3⟩ := print_take_of (P := Try.prog) (Value.int .i64) 0 22 3 .i64 Try.underlying22 hi0 hsz0 A c l (k : Int) (by omega) (by omega) hc
  obtain ⟨A2, D1, D2, D3⟩ := print_drop_of (P := Try.prog) (Value.int .i64) 0 22 3 .i64 Try.underlying22 hi0 hsz0 A c l kk (by omega) (by omega) hc
  have he : l.take (k : Int).toNat ++ l.drop kk.toNat = l.eraseIdx k := by
    rw [List.eraseIdx_eq_take_drop_succ, ← hkk]
    rfl
  have hR1 := Kd.C_of_reads (h1 := fun _ => rfl) (T2 _ (Kd.reads_of_C (d := (0 : Int)) hC))
  have hR2 := Kd.C_of_reads (h1 := fun _ => rfl) (D2 _ (Kd.reads_of_C (d := (0 : Int)) hC))
  have hl1 : (l.take (k : Int).toNat).length ≤ 1000000 := by rw [List.length_take]; omega
  have hl2 : (l.drop kk.toNat).length ≤ 1000000 := by rw [List.length_drop]; omega
  have HE := Aside0.mk he
  generalize l.take (k : Int).toNat = L1 at *
  generalize l.drop kk.toNat = L2 at *
  have HR1 := Aside0.mk hR1
  have HR2 := Aside0.mk hR2
  have LM1 := Aside0.mk hl1
  have LM2 := Aside0.mk hl2
  have HB := Aside0.mk (Below.refl w.heap.size w)
  clear hC hl T2 D2 hR1 hR2 hl1 hl2 he hkk hi0 hsz0 hk T3 D3 hc
  go_enter Try.func25, Try.ntmps25
  go_wp2_with (first
   | ((with_reducible refine gate_dst (N := 6) rfl ?_); refine Kd.R_lit (Kd.int .i64) _ 3 ?hg (N := 6) ?hd (xs := ([] : List Int)) (inner := []) (ok := fun _ => True) (okp := fun _ => True) ?hr ?hp (fun _ hk => hk) trivial (Below.refl _ _) (Nat.le_refl _) (by simp) ?_; (case hd => rfl); (case hg => rfl); (case hr => first | (go_simp; done) | (go_simp; rfl)); (case hp => exact (Reps.none _ _)); intro v109 w3 ho4 hb hg_ hnew_; have HO110 := Aside0.mk (Kd.R_lower ho4 (below_size HB.out)); replace HB := Aside0.mk (below_step HB.out hb); clear hg_ hnew_ hb ho4)
   | ((with_reducible refine gate_builtin (b := .append) (xs := #[.tmp 7, .tmp 10]) rfl ?_); at_builtin; refine Kd.R_append_rows (Kd.int .i64) (w0 := w) w.heap.size rfl (.tmp 7) (.tmp 10) 22 3 (.int .i64 0) 8 rfl Try.underlying22 info3 rfl (by decide) (by omega) v109 [] L1 _ _ _ (fun _ => True) (fun _ => False) rfl rfl ?aO ?aR (fun _ _ h => h) (fun _ h => h.elim) ?aF ?aB ?aS ?aL ?_; (case aR => exact (Kd.C_below HR1.out HB.out)); (case aB => exact HB.out); (case aF => exact (fun _ _ => trivial)); (case aO => exact HO110.out); (case aS => exact below_size HB.out); (case aL => have := LM1.out; simp; omega); intro v112 w5 ho hb hg hat; replace HB := Aside0.mk hb; have HO := Aside0.mk ho; clear ho hb hg hat)
   | ((with_reducible refine gate_builtin (b := .append) (xs := #[.tmp 12, .tmp 16]) rfl ?_); at_builtin; refine Kd.R_append_rows (Kd.int .i64) (w0 := w) w.heap.size rfl (.tmp 12) (.tmp 16) 22 3 (.int .i64 0) 8 rfl Try.underlying22 info3 rfl (by decide) (by omega) v112 ([] ++ L1) L2 _ _ _ (fun _ => True) (fun _ => False) rfl rfl ?aO ?aR (fun _ _ h => h) (fun _ h => h.elim) ?aF ?aB ?aS ?aL ?_; (case aR => exact (Kd.C_below HR2.out HB.out)); (case aB => exact HB.out); (case aF => exact (fun _ _ => trivial)); (case aO => exact HO.out); (case aS => exact below_size HB.out); (case aL => have := LM1.out; have := LM2.out; simp; omega); intro v115 w7 ho hb hg hat
      have V : Aside0 (RowPost (l.eraseIdx k) w (.returned v115) w7) := ⟨v115, rfl, by rw [← HE.out]; exact ho, hb⟩
      clear ho hb hg hat))
  go_ret
  exact V.out
end Go.Proofs.Ytfhjdhhflpekiaa.G
