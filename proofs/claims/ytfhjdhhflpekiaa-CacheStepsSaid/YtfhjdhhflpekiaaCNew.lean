/- What Clone and New answer. -/
import Derived.Test.YtfhjdhhflpekiaaCMake
import Derived.Test.YtfhjdhhflpekiaaCPA
import Derived.Lib.SliceRun
namespace Go.Proofs.Ytfhjdhhflpekiaa.G
open Go.RowKit Go.Proofs.Cache Go.Proofs.YtfhjdhhflpekiaaW.PrintWords Go.Proofs.YtfhjdhhflpekiaaW.PrintLast Go.Proofs.YtfhjdhhflpekiaaW.PrintMore
attribute [local go_sem] max2_int min2_int max_two min_two
set_option linter.unusedVariables false
set_option linter.unusedSimpArgs false
theorem Rd.of_R {α : Type} {d : Kd α} {e : Nat} {B : Bd} {w : World} {base : Nat} {ok : Nat → Prop} {v : Value} {xs : List α} (h : d.R e w base ok v xs) (he : dirty e = false) (hN : ∀ k, ¬ B.N k) :
    ∃ A c, v = .slice A xs.length c ∧ xs.length ≤ c ∧ Rd d B w A xs := by
  obtain ⟨A, c, rfl, hc, hC⟩ := Kd.R_reads h
  refine ⟨A, c, rfl, hc, hC, fun _ a ha => ?_⟩
  obtain ⟨_, inner, ho, hr⟩ := h
  obtain ⟨cs, hb⟩ := own_typed ho a.block (by rw [ha]; rfl)
  exact safe_blk hb he fun _ => hN _
def ClonePost (B : Bd) (l : List Int) (w : World) (e : Ending) (w' : World) : Prop :=
  ∃ A c, e = .returned (.slice A l.length c) ∧ l.length ≤ c ∧ Below w.heap.size w w' ∧ Rd (Kd.int .i64) B w' A l
set_option maxHeartbeats 1000000 in
set_option maxRecDepth 100000 in
theorem cloneNil.calls (B : Bd) (c : Nat) (w : World) : Calls Try.prog 22 #[.slice none 0 c] w (ClonePost B [] w) := by
  have V : Aside0 (ClonePost B [] w (.returned (.slice none 0 0)) w) := ⟨none, 0, rfl, Nat.le_refl _, Below.refl _ _, ⟨rfl, by simp, fun h => absurd h (by simp)⟩, fun h => absurd h (by simp)⟩
  have E := fun w => Lib.run_eql_slice_nil (P := Try.prog) w 22 3 none 0 c 0 0 Try.underlying22
  go_enter Try.func22, Try.ntmps22
  go_wp2
  go_ret
  exact V.out
set_option maxHeartbeats 1000000 in
set_option maxRecDepth 100000 in
theorem cloneSome.calls (B : Bd) (ad : Addr) (l : List Int) (c : Nat) (w : World) (hC : Kd.C (Kd.int .i64) w (some ad) l.length l) (hc : l.length ≤ c) (hl : l.length ≤ 1000000) (hN : ∀ k, ¬ B.N k) : Calls Try.prog 22 #[.slice (some ad) l.length c] w (ClonePost B l w) := by
  have HR0 := Aside0.mk hC
  have LM := Aside0.mk hl
  have HN := Aside0.mk hN
  have HB := Aside0.mk (Below.refl w.heap.size w)
  clear hC hl hN
  have E := fun w => Lib.run_eql_slice_nil (P := Try.prog) w 22 3 (some ad) l.length c 0 0 Try.underlying22
  go_enter Try.func22, Try.ntmps22
  go_wp2_with (first
   | ((with_reducible refine gate_dst (N := 5) rfl ?_); refine Kd.R_lit (Kd.int .i64) _ 3 ?hg (N := 5) ?hd (xs := ([] : List Int)) (inner := []) (ok := fun _ => True) (okp := fun _ => True) ?hr ?hp (fun _ hk => hk) trivial (Below.refl _ _) (Nat.le_refl _) (by simp) ?_; (case hd => rfl); (case hg => rfl); (case hr => first | (go_simp; done) | (go_simp; rfl)); (case hp => exact (Reps.none _ _)); intro v109 w3 ho4 hb hg_ hnew_; have HO110 := Aside0.mk (Kd.R_lower ho4 (below_size HB.out)); replace HB := Aside0.mk (below_step HB.out hb); clear hg_ hnew_ hb ho4)
   | ((with_reducible refine gate_builtin (b := .append) (xs := #[.tmp 5, .tmp 6]) rfl ?_); at_builtin; refine Kd.R_append_rows (Kd.int .i64) (w0 := w) w.heap.size rfl (.tmp 5) (.tmp 6) 22 3 (.int .i64 0) 8 rfl Try.underlying22 info3 rfl (by decide) (by omega) v109 [] l _ _ _ (fun _ => True) (fun _ => False) rfl rfl ?aO ?aR (fun _ _ h => h) (fun _ h => h.elim) ?aF ?aB ?aS ?aL ?_; (case aR => exact (Kd.C_below HR0.out HB.out)); (case aB => exact HB.out); (case aF => exact (fun _ _ => trivial)); (case aO => exact HO110.out); (case aS => exact below_size HB.out); (case aL => have := LM.out; simp; omega); intro v112 w5 ho hb hg hat
      obtain ⟨A', c', rfl, hc', hR'⟩ := Rd.of_R (B := B) ho rfl HN.out
      have V : Aside0 (ClonePost B l w (.returned (.slice A' l.length c')) w5) := ⟨A', c', rfl, hc', hb, hR'⟩
      clear ho hb hg hat hc' hR'))
  go_ret
  exact V.out
theorem clone.calls (B : Bd) (A : Option Addr) (l : List Int) (c : Nat) (w : World) (hC : Kd.C (Kd.int .i64) w A l.length l) (hc : l.length ≤ c) (hl : l.length ≤ 1000000) (hN : ∀ k, ¬ B.N k) : Calls Try.prog 22 #[.slice A l.length c] w (ClonePost B l w) := by
  cases A with
  | none =>
    have : l = [] := by
      cases l with
      | nil => rfl
      | cons x r =>
        obtain ⟨ad, e, _⟩ := hC.2.2 (by simp)
        cases e
    subst this
    exact cloneNil.calls B c w
  | some ad => exact cloneSome.calls B ad l c w hC hc hl hN
structure Fresh (B : Bd) (sizes : List Int) (room : Int) (l : List Int) (mb : Nat) (w : World) (w' : World) (s : Cs) : Prop where
  below : Below w.heap.size w w'
  at_ : CacheAt B sizes w' s
  p : s.p = startP room l
  mb : s.mb = mb
  g : w.heap.size ≤ s.g
  own : ∀ k, Mut s k → w.heap.size ≤ k
def NewPost (B : Bd) (sizes : List Int) (room : Int) (l : List Int) (mb : Nat) (w : World) (e : Ending) (w' : World) : Prop :=
  ∃ s, e = .returned (.pointer (some ⟨s.g, 0, none⟩)) ∧ Fresh B sizes room l mb w w' s
set_option maxHeartbeats 1000000 in
set_option maxRecDepth 100000 in
theorem new.calls (B : Bd) (sizes : List Int) (room : Int) (A : Option Addr) (l : List Int) (c mb : Nat) (w : World) (hm : MadeAt B sizes w mb) (hC : Kd.C (Kd.int .i64) w A l.length l) (hc : l.length ≤ c) (hl : l.length ≤ 1000000) (hB : B ≤ w.heap.size) (hN : ∀ k, ¬ B.N k) :
    Calls Try.prog 11 #[.int .i64 room, .slice A l.length c, .iface 28 (.pointer (some ⟨mb, 0, none⟩))] w (NewPost B sizes room l mb w) := by
  have CC := clone.calls B A l c w hC hc hl hN
  have HN := Aside0.mk hN
  have HM := Aside0.mk hm
  have HBB := Aside0.mk hB
  clear hm hC hc hl hB hN
  go_enter Try.func11, Try.ntmps11
  go_wp2_with (first
   | (go_at_call 22; (with_reducible refine CC.mono ?_); rintro e w1 ⟨A', c', rfl, hc', hb, hR⟩
      have HC1 := Aside0.mk hc'
      have HB := Aside0.mk hb
      have HR := Aside0.mk hR
      clear hc' hb hR)
   | ((with_reducible refine gate_dst (N := 13) rfl ?_); refine box_event ?hg (N := 13) ?hd (cs := #[.int .i64 (if room < 0 then 0 else room), .slice A' l.length c', .iface 28 (.pointer (some ⟨mb, 0, none⟩)), .slice none 0 0, .int .i64 0, .int .i64 0, .int .i64 0, .int .i64 0, .int .i64 0]) (t := 61) ?hr ?_; (case hd => rfl); (case hg => rfl); (case hr => first | (go_simp; done) | (go_simp; rfl)); intro g hg w3 hbox hb
      have V : Aside0 (NewPost B sizes room l mb w (.returned (.pointer (some ⟨g, 0, none⟩))) w3) := ⟨by
        have hb2 := below_step HB.out hb
        have m := Still.of_below (B := B) hb2
        have hgs : w.heap.size ≤ g := by rw [hg]; exact HB.out.size
        refine ⟨⟨g, A', c', mb, .slice none 0 0, [], startP room l⟩, rfl, hb2, ⟨hbox, Nat.le_trans HBB.out hgs, HM.out.move m, HR.out.int (.of_below hb), HC1.out, own_nil _ _ _ _, rfl, fun e he => absurd he (by simp), by simp, fun k hk => absurd hk (HN.out k)⟩, rfl, rfl, hgs, ?_⟩
        rintro k (rfl | hk | ⟨e, he, _⟩)
        · exact hgs
        · simp [Value.ownBlock] at hk
        · exact absurd he (by simp)⟩
      clear hbox hb hg))
  all_goals
    go_ret
    exact V.out
end Go.Proofs.Ytfhjdhhflpekiaa.G
