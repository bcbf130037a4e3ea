/- The document's text of an image. -/
import Derived.Test.YtibecmeajopmeaaDoorIRefT
import Derived.Test.YtibecmeajopmeaaDoorIShow
namespace Go.Proofs.YtibecmeajopmeaaDoor.G
open Go.RowKit Go.Proofs.YtibecmeajopmeaaDoorW.PrintWords Go.Proofs.YtibecmeajopmeaaDoorW.PrintLast Go.Proofs.YtibecmeajopmeaaDoorW.PrintMore
set_option linter.unusedVariables false
set_option linter.unusedSimpArgs false
section
variable {α : Type} {d : Kd α} {e base : Nat} {ok : Nat → Prop} {w w1 : World} {v : Value} {xs : List α}
theorem R_lt (h : Kd.R d e w base ok v xs) {g : Nat} (hg : g = w.heap.size) : Kd.R d e w base (fun k => k < g) v xs := Kd.R_mono (Kd.R_bound h) (fun k hk => by rw [hg]; exact hk.2.2.1)
end
theorem R_but {α : Type} {d : Kd α} {e base g : Nat} {w w1 : World} {v : Value} {xs : List α} (h : Kd.R d e w base (fun k => k < g) v xs) (hk : ∀ k, k ≠ g → w1.heap[k]? = w.heap[k]?) : Kd.R d e w1 base (fun _ => True) v xs :=
  Kd.R_mono (Kd.R_step h fun k ho _ => hk k (Nat.ne_of_lt ho)) (fun _ _ => trivial)
theorem RIm.grow {B b base : Nat} {w w1 : World} {v v3 : Value} {l : List S35} {W H : Int} {xs : List S33} (h : RIm B w b v l W H) (hr : Kd.R k33 33 w base (fun _ => True) v3 xs) (hg : w.grownBy w1 v3.ownBlock) : RIm B w1 b v l W H := by
  have ht : ∀ k, v3.ownBlock = some k → ∃ cells, w.heap[k]? = some (.cells cells 33 (0, 0)) := fun k hk => by
    obtain ⟨_, inner, ho, _⟩ := hr
    exact own_typed ho k hk
  refine ⟨(hg.block b (blk_lt h.cells) ?_).trans h.cells, Kd.R_mono (Kd.R_step (Kd.R_bound h.row) fun k ho hlt => hg.block k hlt ?_) (fun _ _ => trivial), h.lo⟩
  · rintro e
    obtain ⟨cells, hc⟩ := ht b e.symm
    rw [h.cells] at hc
    injection hc with hc
    injection hc with _ hc _
    exact absurd hc (by decide)
  · rintro e
    obtain ⟨cells, hc⟩ := ht k e.symm
    obtain ⟨_, _, _, q, hq, cells', hc2⟩ := ho
    have hq' : q = 35 := by simpa [k35, k33, Kd.iso, Kd.pair, Kd.int, Kd.scalar] using hq
    subst hq'
    rw [hc] at hc2
    injection hc2 with hc2
    injection hc2 with _ hc2 _
    exact absurd hc2 (by decide)
set_option maxHeartbeats 4000000 in
set_option maxRecDepth 100000 in
theorem rtext.calls {B b Wn Hn : Nat} {v : Value} {K : List S35} (w : World) (h : RIm B w b v K Wn Hn) (hK : ∀ s ∈ K, accB Wn Hn s = true) (hl : K.length ≤ 1000) (hW : Wn ≤ 64) (hH : Hn ≤ 64) :
    Calls Tryd.prog 14 #[.pointer (some ⟨b, 0, none⟩)] w (TextPost Wn Hn (foldM Wn Hn K) w) := by
  have HB := Aside0.mk (Below.refl w.heap.size w)
  have IM := Aside0.mk h
  have AT : ∀ (x y : Int) (w' : World), RIm B w' b v K Wn Hn → hasB Wn Hn x y = true → Calls Tryd.prog 12 #[.pointer (some ⟨b, 0, none⟩), .int .i64 x, .int .i64 y] w' (fun e w2 => e = .returned (.tuple #[.agg #[.int .i64 (colC (foldM Wn Hn K x y)).f0, .int .i64 (colC (foldM Wn Hn K x y)).f1, .int .i64 (colC (foldM Wn Hn K x y)).f2], .bool true]) ∧ Below w'.heap.size w' w2) := fun x y w' hw hh => by
    refine (rat.calls x y w' hw hK hl).mono ?_
    rintro e w2 ⟨h1, h2⟩
    rw [hh] at h1
    exact ⟨h1, h2⟩
  have ATT := Aside0.mk AT
  have HWH := Aside0.mk (And.intro hW hH)
  clear h hK hl AT
  generalize foldM Wn Hn K = M at *
  obtain ⟨tx, htx⟩ : ∃ tx : ByteArray, (⟨(textB Wn Hn M).toArray⟩ : ByteArray) = tx := ⟨_, rfl⟩
  unfold TextPost
  rw [htx]
  have HTX := Aside0.mk htx
  clear htx
  go_enter Tryd.func14, Tryd.ntmps14
  go_wp2_with (first
   | ((with_reducible refine gate_dst (N := 8) rfl ?_); refine Kd.R_lit k33 _ 33 ?hg (N := 8) ?hd (xs := ([] : List S33)) (inner := []) (ok := fun _ => True) (okp := fun _ => True) ?hr ?hp (fun _ hk => hk) trivial (Below.refl _ _) (Nat.le_refl _) (by simp) ?_; (case hd => rfl); (case hg => rfl); (case hr => first | (go_simp; done) | (go_simp; rfl)); (case hp => exact (Reps.none _ _)); intro v8 w4 ho hb hg_ hnew_; have RL := Aside0.mk (Kd.R_lower ho (below_size HB.out)); replace IM := Aside0.mk (IM.out.below hb); replace HB := Aside0.mk (below_step HB.out hb); clear hg_ hnew_ hb ho))
  go_loopg [3, 4] Hn (fun kq v3 v4 w' => ∃ j : Nat, v4 = .int .i64 j ∧ ∃ W', W' = w' ∧ Aside0 (j + kq = Hn) ∧ Aside0 (RIm B W' b v K Wn Hn) ∧ Aside0 (Kd.R k33 33 W' w.heap.size (fun _ => True) v3 (allC M Wn j)) ∧ Aside0 (Below w.heap.size w W'))
  case atStart => exact ⟨0, rfl, _, rfl, ⟨by omega⟩, IM, RL, HB⟩
  case round =>
    clear IM RL HB
    obtain ⟨j, rfl, W', rfl, HJ, IM, RL, HB⟩ := hrel
    have hj := HJ.out
    have c0 := IM.out.c0
    have c1 := IM.out.c1
    by_cases hlt : j < Hn
    · have e1 : decide ((j : Int) < (Hn : Int)) = true := decide_eq_true (by omega)
      cases gk with
      | zero => omega
      | succ q1 =>
      go_wp2
      clear c0 c1 e1
      go_loopg [3, 5] Wn (fun kq v3 v5 w' => ∃ i : Nat, v5 = .int .i64 i ∧ ∃ W', W' = w' ∧ Aside0 (i + kq = Wn) ∧ Aside0 (RIm B W' b v K Wn Hn) ∧ Aside0 (Kd.R k33 33 W' w.heap.size (fun _ => True) v3 (allC M Wn j ++ rowC M j i)) ∧ Aside0 (Below w.heap.size w W'))
      case atStart => exact ⟨0, rfl, _, rfl, ⟨by omega⟩, IM, ⟨by simpa [rowC] using RL.out⟩, HB⟩
      case round =>
        clear IM RL HB W'
        obtain ⟨i, rfl, W', rfl, HI, IM, RL, HB⟩ := hrel
        have hi := HI.out
        have c0 := IM.out.c0
        have c1 := IM.out.c1
        by_cases hlt2 : i < Wn
        · have e2 : decide ((i : Int) < (Wn : Int)) = true := decide_eq_true (by omega)
          have AC := ATT.out (i : Int) (j : Int) W' IM.out (decide_eq_true (by omega))
          have HLN : Aside0 (((allC M Wn j ++ rowC M j i).length + 1) * 24 ≤ 140737488355328) := ⟨by
            have h1 := HWH.out
            have h2 : Wn * j ≤ 64 * 64 := Nat.mul_le_mul h1.1 (by omega)
            rw [List.length_append, allC_len, rowC_len]
            omega⟩
          have NX : Aside0 (allC M Wn j ++ rowC M j (i + 1) = (allC M Wn j ++ rowC M j i) ++ [colC (M i j)]) := ⟨by rw [rowC, List.append_assoc]⟩
          generalize allC M Wn j ++ rowC M j i = L at *
          generalize colC (M i j) = c at *
          cases gk with
          | zero => omega
          | succ k1 =>
          go_wp2_with (first
           | (go_at_call 12; (with_reducible refine AC.mono ?_); rintro e w5 ⟨rfl, hb⟩; replace IM := Aside0.mk (IM.out.below hb); replace RL := Aside0.mk (Kd.R_below RL.out hb); replace HB := Aside0.mk (below_step HB.out hb); clear hb)
           | ((with_reducible refine gate_dst (N := 6) rfl ?_); refine box_event ?hg (N := 6) ?hd (cs := #[.int .i64 0, .int .i64 0, .int .i64 0]) (t := 33) ?hr ?_; (case hd => rfl); (case hg => rfl); (case hr => first | (go_simp; done) | (go_simp; rfl)); intro g6 hg w6 hbox hb; have BK6 := Aside0.mk hbox; have GE6 := Aside0.mk (bG hg HB.out); have RT := Aside0.mk (Kd.R_below (R_lt RL.out hg) hb); replace IM := Aside0.mk (IM.out.below hb); replace HB := Aside0.mk (below_step HB.out hb); clear hg hbox hb)
           | ((with_reducible refine gate_store2 (t := 33) (x := .tmp 6) (y := .tmp 30) rfl ?_); refine ev_row (B := w.heap.size) (w0 := w) rfl 33 (.tmp 6) (.tmp 30) rfl rfl g6 #[.int .i64 c.f0, .int .i64 c.f1, .int .i64 c.f2] ?hx ?hy 33 _ BK6.out (by kernel_rfl) rfl (by simp [Value.oneCell']) HB.out GE6.out ?_; (case hx => first | (go_simp; done) | rfl); (case hy => first | (go_simp; done) | rfl | (go_simp; rfl)); intro w7 hbox hb hk; have RL7 := Aside0.mk (R_but RT.out hk); replace IM := Aside0.mk (IM.out.but BK6.out (by decide) (by decide) hk); replace BK6 := Aside0.mk hbox; replace HB := Aside0.mk hb; have f0 : w7.cell? ⟨g6, 0, none⟩ = some (.int .i64 c.f0) := (blk_cell hbox 0).trans rfl; have f1 : w7.cell? ⟨g6, 1, none⟩ = some (.int .i64 c.f1) := (blk_cell hbox 1).trans rfl; have f2 : w7.cell? ⟨g6, 2, none⟩ = some (.int .i64 c.f2) := (blk_cell hbox 2).trans rfl; clear hbox hb hk)
           | ((with_reducible refine gate_builtin (b := .append) (xs := #[.tmp 32, .tmp 34]) rfl ?_); at_builtin; refine Kd.R_append k33 (w0 := w) w.heap.size rfl (.tmp 32) (.tmp 34) 67 33 (.agg #[.int .i64 0, .int .i64 0, .int .i64 0]) 24 rfl Tryd.underlying67 info33 rfl (by decide) (by omega) u3 L c [.int .i64 c.f0, .int .i64 c.f1, .int .i64 c.f2] (fun _ => True) (fun _ => False) rfl rfl ?aP (fun _ hk => hk.elim) ?aF ?aO ?aB ?aS ?aL ?_; (case aP => exact k33_mkM _ _ _ _); (case aB => exact HB.out); (case aF => exact (fun _ _ => trivial)); (case aO => exact RL7.out); (case aS => exact (below_size HB.out)); (case aL => exact HLN.out); intro v9 w9 ho hb hg hat; replace IM := Aside0.mk (IM.out.grow RL7.out hg); have RL9 := Aside0.mk ho; replace HB := Aside0.mk hb; clear ho hb hg hat))
          go_roundg k1
          case measure => omega
          case rel => exact ⟨i + 1, by simp, _, rfl, ⟨by omega⟩, IM, ⟨by rw [NX.out]; exact RL9.out⟩, HB⟩
        · have e2 : decide ((i : Int) < (Wn : Int)) = false := decide_eq_false (by omega)
          have RE : Aside0 (Kd.R k33 33 W' w.heap.size (fun _ => True) u3 (allC M Wn (j + 1))) := ⟨by
            have := RL.out
            rw [show i = Wn by omega] at this
            exact this⟩
          go_wp2
          go_roundg q1
          case measure => omega
          case rel => exact ⟨j + 1, by simp, _, rfl, ⟨by omega⟩, IM, RE, HB⟩
    · have e1 : decide ((j : Int) < (Hn : Int)) = false := decide_eq_false (by omega)
      have RE : Aside0 (Kd.R k33 33 W' w.heap.size (fun _ => True) u3 (allC M Wn Hn)) := ⟨by
        have := RL.out
        rw [show j = Hn by omega] at this
        exact this⟩
      obtain ⟨A, c, rfl, hc, hC⟩ := Kd.R_reads RE.out
      have TC : ∀ w', Below W'.heap.size W' w' → Calls Tryd.prog 23 #[.int .i64 (Wn : Int), .int .i64 (Hn : Int), .slice A (allC M Wn Hn).length c] w' (fun e w2 => e = .returned (.string ⟨(textB Wn Hn M).toArray⟩) ∧ Below w'.heap.size w' w2) := fun w' hb => relievoref22_Text.calls 20000 (Wn : Int) (Hn : Int) A c (allC M Wn Hn) _ w' (Kd.C_below hC hb) hc (text_all HWH.out.1 HWH.out.2 M)
      rw [HTX.out] at TC
      clear RE RL
      generalize (allC M Wn Hn).length = n at *
      go_wp2
      go_region_held3 (fun w' => w'.cell? ⟨b, 0, none⟩ = some (.int .i64 (Wn : Int)) ∧ w'.cell? ⟨b, 1, none⟩ = some (.int .i64 (Hn : Int))) (first | exact ⟨c0, c1⟩ | exact YC.out) (first
       | (go_at_call 23; (with_reducible refine (TC _ (by first | exact Below.refl _ _ | exact below_drew1 (Below.refl _ _))).mono ?_); rintro e w5 ⟨rfl, hb⟩
          have hbb : Below W'.heap.size W' w5 := (by first | exact Below.refl _ _ | exact below_drew1 (Below.refl _ _) : Below W'.heap.size W' _).trans (hb.mono (by first | exact Nat.le_refl _ | exact Below.size (below_drew1 (Below.refl _ _))))
          have I5 := IM.out.below hbb
          have YC : Aside0 (w5.cell? ⟨b, 0, none⟩ = some (.int .i64 (Wn : Int)) ∧ w5.cell? ⟨b, 1, none⟩ = some (.int .i64 (Hn : Int))) := ⟨I5.c0, I5.c1⟩
          have HB5 := Aside0.mk (below_step HB.out hbb)
          clear hb hbb I5))
      all_goals
        go_wp2
        go_ret
        exact ⟨rfl, HB5.out⟩
end Go.Proofs.YtibecmeajopmeaaDoor.G
