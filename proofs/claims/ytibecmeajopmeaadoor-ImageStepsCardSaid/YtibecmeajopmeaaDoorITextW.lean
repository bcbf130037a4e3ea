/- An image's text: the walk. -/
import Derived.Test.YtibecmeajopmeaaDoorIText
import Derived.Deep.RegionHeld3
namespace Go.Proofs.YtibecmeajopmeaaDoor.G
open Go.RowKit Go.Proofs.YtibecmeajopmeaaDoorW.PrintWords Go.Proofs.YtibecmeajopmeaaDoorW.PrintLast Go.Proofs.YtibecmeajopmeaaDoorW.PrintMore
set_option linter.unusedVariables false
set_option linter.unusedSimpArgs false
theorem bldString {B b : Nat} {l : List UInt8} {w : World} (h : Bld B b l w) (hB : B ≤ w.heap.size) : Calls Tryd.prog 22 #[.pointer (some ⟨b, 0, none⟩)] w fun e w' => e = .returned (.string ⟨l.toArray⟩) ∧ Below B w w' := by
  refine (Tryd.Builder_String_any_k B b l w h hB).mono ?_
  rintro e w' ⟨rfl, _, h2, _⟩
  exact ⟨rfl, h2⟩
set_option maxHeartbeats 4000000 in
set_option maxRecDepth 100000 in
theorem text.calls {a mb n : Nat} {Wn Hn : Nat} {M : Int → Int → Px} (w : World) (h : Img w a mb n Wn Hn M) (hW : Wn ≤ 64) (hH : Hn ≤ 64) (hP : Pow w) :
    Calls Tryd.prog 13 #[.pointer (some ⟨a, 0, none⟩)] w (TextPost Wn Hn M w) := by
  have hu33 := Tryd.underlying33
  have hmf : ∀ (fn : Fn) (first cap : Array Value) (w : World), (Instr.makeFunc fn first cap).run Tryd.prog w = .ok (.func fn first cap) w := fun _ _ _ _ => rfl
  have IM := Aside0.mk h
  have HP := Aside0.mk hP
  obtain ⟨b, hb⟩ : ∃ b, w.heap.size = b := ⟨_, rfl⟩
  have HBE := Aside0.mk hb
  have NA : Aside0 (a ≠ b ∧ mb ≠ b) := ⟨by have h1 := blk_lt h.cells; have h2 := h.map.lt; omega⟩
  have hw1 : (Wn : Int) ≤ 64 := by omega
  have hh1 : (Hn : Int) ≤ 64 := by omega
  clear h hP hb
  go_enter Tryd.func13, Tryd.ntmps13
  go_wp2_with (first
   | ((with_reducible refine gate_dst (N := 3) rfl ?_); refine box_event ?hg (N := 3) ?hd (cs := #[.pointer none, .slice none 0 0]) (t := 58) ?hr ?_; (case hd => rfl); (case hg => rfl); (case hr => first | (go_simp; done) | (go_simp; rfl)); intro g3 hg w3 hbox hb
      obtain rfl : b = g3 := by rw [hg]; exact HBE.out.symm
      have T0 : Aside0 (Txt w b a mb n Wn Hn M [] w3) := ⟨⟨.inl ⟨Nat.le_refl _, .slice none 0 0, hbox, World.ownsRowF_of (World.ownsRow_nil _ _ _ _), by simp [Value.ownBlock]⟩, IM.out.below hb, by rw [← HBE.out]; exact hb, NA.out.1, NA.out.2⟩⟩
      clear hg hbox hb)
   | (go_at_call 20; (with_reducible refine (wHead T0.out.bld T0.out.size).mono ?_); rintro e w4 ⟨rfl, hq⟩; have T1 := Aside0.mk (T0.out.wrote hq); clear hq))
  have WI : I64 (Wn : Int) := ⟨by omega, by omega⟩
  have HI : I64 (Hn : Int) := ⟨by omega, by omega⟩
  have WII := Aside0.mk (And.intro WI HI)
  have c0 : w4.cell? ⟨a, 0, none⟩ = some (.int .i64 (Wn : Int)) := (blk_cell T1.out.img.cells 0).trans rfl
  have c1 : w4.cell? ⟨a, 1, none⟩ = some (.int .i64 (Hn : Int)) := (blk_cell T1.out.img.cells 1).trans rfl
  have hW5 : Below w4.heap.size w4 (w4.alloc (.cells #[.int .i64 (Wn : Int), .int .i64 (Hn : Int)] 3 (0, 0))).drew := below_drew1 (below_alloc (Below.refl _ _) _)
  have YB : Aside0 ((w4.alloc (.cells #[.int .i64 (Wn : Int), .int .i64 (Hn : Int)] 3 (0, 0))).drew.cell? ⟨a, 0, none⟩ = some (.int .i64 (Wn : Int)) ∧ (w4.alloc (.cells #[.int .i64 (Wn : Int), .int .i64 (Hn : Int)] 3 (0, 0))).drew.cell? ⟨a, 1, none⟩ = some (.int .i64 (Hn : Int))) := ⟨(hW5.cell (p := ⟨a, 0, none⟩) (blk_lt T1.out.img.cells)).trans c0, (hW5.cell (p := ⟨a, 1, none⟩) (blk_lt T1.out.img.cells)).trans c1⟩
  have LC : Calls Tryd.prog 18 #[.slice (some ⟨w4.heap.size, 0, none⟩) 2 2, .pointer (some ⟨b, 0, none⟩)] (w4.alloc (.cells #[.int .i64 (Wn : Int), .int .i64 (Hn : Int)] 3 (0, 0))).drew (fun e w' => e = .returned (.tuple #[]) ∧ Txt w b a mb n Wn Hn M ([80, 51, 10] ++ lineB [(Wn : Int), (Hn : Int)]) w') := (T1.out.next hW5).line2 HP.out HBE.out (blk_drew (blk_new w4 _)) WI HI (by simp)
  clear hW5 WI HI
  go_region_held3 (fun w' => w'.cell? ⟨a, 0, none⟩ = some (.int .i64 (Wn : Int)) ∧ w'.cell? ⟨a, 1, none⟩ = some (.int .i64 (Hn : Int))) (first | exact ⟨c0, c1⟩ | exact YB.out | exact YC.out) (first
   | (go_at_call 18; (with_reducible refine LC.mono ?_); rintro e w5 ⟨rfl, hq⟩
      have YC : Aside0 (w5.cell? ⟨a, 0, none⟩ = some (.int .i64 (Wn : Int)) ∧ w5.cell? ⟨a, 1, none⟩ = some (.int .i64 (Hn : Int))) := ⟨(blk_cell hq.img.cells 0).trans rfl, (blk_cell hq.img.cells 1).trans rfl⟩
      have T2 := Aside0.mk hq
      clear hq))
  clear c0 c1 YB LC
  obtain ⟨c0, c1⟩ := YC.out
  have HL5 : Aside0 (([80, 51, 10] ++ lineB [(Wn : Int), (Hn : Int)]).length ≤ 1000) := ⟨by
    have := lineB_le (i64l2 WII.out.1 WII.out.2)
    rw [List.length_append]
    simp only [List.length_cons, List.length_nil] at *
    omega⟩
  go_wp2_with (first
   | ((with_reducible refine gate_dst (N := 25) rfl ?_); refine lit_event ?hg (N := 25) ?hd (cs := #[.int .i64 255]) (t := 3) (n := 1) (c := 1) ?hr ?_; (case hd => rfl); (case hg => rfl); (case hr => first | (go_simp; done) | (go_simp; rfl)); intro g25 hg w6 hbox hb; have BK25 := Aside0.mk hbox; have T3 := Aside0.mk (T2.out.next hb); clear hg hbox hb)
   | (go_at_call 18; (with_reducible refine (T3.out.line1 HP.out HBE.out BK25.out (by unfold I64; omega) (by have := HL5.out; omega)).mono ?_); rintro e w7 ⟨rfl, hq⟩; have T4 : Aside0 (Txt w b a mb n Wn Hn M (headB Wn Hn) w7) := ⟨hq⟩; have d1 : w7.cell? ⟨a, 1, none⟩ = some (.int .i64 (Hn : Int)) := (blk_cell T4.out.img.cells 1).trans rfl; clear hq))
  clear T0 T1 T2 T3 BK25 HL5 c0 c1 YC d1
  go_loopg [32] Hn (fun kq v32 w' => ∃ j : Nat, v32 = .int .i64 j ∧ ∃ W, W = w' ∧ Aside0 (j + kq = Hn) ∧ Aside0 (Txt w b a mb n Wn Hn M (headB Wn Hn ++ allTo M Wn j) W))
  case atStart => exact ⟨0, rfl, _, rfl, ⟨by omega⟩, ⟨by simpa [allTo] using T4.out⟩⟩
  case round =>
    clear T4
    obtain ⟨j, rfl, W, rfl, HJ, TJ⟩ := hrel
    have hj := HJ.out
    by_cases hlt : j < Hn
    · have e1 : decide ((j : Int) < (Hn : Int)) = true := decide_eq_true (by omega)
      have c0 : W.cell? ⟨a, 0, none⟩ = some (.int .i64 (Wn : Int)) := (blk_cell TJ.out.img.cells 0).trans rfl
      cases gk with
      | zero => omega
      | succ q1 =>
      go_wp2
      clear e1 c0
      go_loopg [40] Wn (fun kq v40 w' => ∃ i : Nat, v40 = .int .i64 i ∧ ∃ W', W' = w' ∧ Aside0 (i + kq = Wn) ∧ Aside0 (Txt w b a mb n Wn Hn M (headB Wn Hn ++ allTo M Wn j ++ rowTo M j i) W'))
      case atStart => exact ⟨0, rfl, _, rfl, ⟨by omega⟩, ⟨by simpa [rowTo] using TJ.out⟩⟩
      case round =>
        clear TJ W
        obtain ⟨i, rfl, W, rfl, HI, TI⟩ := hrel
        have hi := HI.out
        by_cases hlt2 : i < Wn
        · have e2 : decide ((i : Int) < (Wn : Int)) = true := decide_eq_true (by omega)
          have HL : Aside0 ((headB Wn Hn ++ allTo M Wn j ++ rowTo M j i).length ≤ 1000000) := ⟨by
            have h1 := head_le hW hH
            have h2 := all_le M hW j
            have h3 := row_le M j i
            rw [List.length_append, List.length_append]
            omega⟩
          have hin : hasB Wn Hn i j = true := decide_eq_true (by omega)
          have AC : Calls Tryd.prog 11 #[.pointer (some ⟨a, 0, none⟩), .int .i64 (i : Int), .int .i64 (j : Int)] W (fun e w' => e = .returned (.tuple #[.agg #[.int .i64 (colR (M i j)), .int .i64 (colG (M i j)), .int .i64 (colB (M i j))], .bool true]) ∧ Below W.heap.size W w') := by
            refine (at.calls (i : Int) (j : Int) W TI.out.img (by unfold I64; omega) (by unfold I64; omega)).mono ?_
            rintro e w' ⟨h1, h2⟩
            rw [hin] at h1
            exact ⟨h1, h2⟩
          have hst : headB Wn Hn ++ allTo M Wn j ++ rowTo M j (i + 1) = headB Wn Hn ++ allTo M Wn j ++ rowTo M j i ++ pixB (M i j) := by
            simp [rowTo]
          have HST := Aside0.mk hst
          have PX : Aside0 (pixB (M i j) = lineB [colR (M i j), colG (M i j), colB (M i j)] ∧ I64 (colR (M i j)) ∧ I64 (colG (M i j)) ∧ I64 (colB (M i j))) := ⟨rfl, wrap_i64 _, wrap_i64 _, wrap_i64 _⟩
          clear hst hin
          generalize colR (M i j) = r0 at *
          generalize colG (M i j) = g0 at *
          generalize colB (M i j) = b0 at *
          generalize headB Wn Hn ++ allTo M Wn j ++ rowTo M j i = acc at *
          cases gk with
          | zero => omega
          | succ k1 =>
          go_wp2_with (first
           | (go_at_call 11; (with_reducible refine AC.mono ?_); rintro e w8 ⟨rfl, hb⟩; have T5 := Aside0.mk (TI.out.next hb); clear hb)
           | ((with_reducible refine gate_dst (N := 7) rfl ?_); refine box_event ?hg (N := 7) ?hd (cs := #[.int .i64 0, .int .i64 0, .int .i64 0]) (t := 33) ?hr ?_; (case hd => rfl); (case hg => rfl); (case hr => first | (go_simp; done) | (go_simp; rfl)); intro g7 hg w9 hbox hb; have BK7 := Aside0.mk hbox; have GE7 : Aside0 (b ≤ g7) := ⟨by rw [hg]; exact T5.out.size⟩; have T6 := Aside0.mk (T5.out.next hb); clear hg hbox hb)
           | ((with_reducible refine gate_store2 (t := 33) (x := .tmp 7) (y := .tmp 48) rfl ?_); refine ev_row (B := b) (w0 := w) rfl 33 (.tmp 7) (.tmp 48) rfl rfl g7 #[.int .i64 r0, .int .i64 g0, .int .i64 b0] ?hx ?hy 33 _ BK7.out (by kernel_rfl) rfl (by simp [Value.oneCell']) T6.out.below GE7.out ?_; (case hx => first | (go_simp; done) | rfl); (case hy => first | (go_simp; done) | rfl | (go_simp; rfl)); intro w10 hbox hb hk; have T7 := Aside0.mk (T6.out.but BK7.out hb hk); replace BK7 := Aside0.mk hbox; have f0 : w10.cell? ⟨g7, 0, none⟩ = some (.int .i64 r0) := (blk_cell hbox 0).trans rfl; have f1 : w10.cell? ⟨g7, 1, none⟩ = some (.int .i64 g0) := (blk_cell hbox 1).trans rfl; have f2 : w10.cell? ⟨g7, 2, none⟩ = some (.int .i64 b0) := (blk_cell hbox 2).trans rfl; clear hbox hb hk)
           | ((with_reducible refine gate_dst (N := 57) rfl ?_); refine lit_event ?hg (N := 57) ?hd (cs := #[.int .i64 r0, .int .i64 g0, .int .i64 b0]) (t := 3) (n := 3) (c := 3) ?hr ?_; (case hd => rfl); (case hg => rfl); (case hr => first | (go_simp; done) | (go_simp; rfl)); intro g57 hg w11 hbox hb; have BK57 := Aside0.mk hbox; have T8 := Aside0.mk (T7.out.next hb); clear hg hbox hb)
           | (go_at_call 18; (with_reducible refine (T8.out.line3 HP.out HBE.out BK57.out PX.out.2.1 PX.out.2.2.1 PX.out.2.2.2 (by have := HL.out; omega)).mono ?_); rintro e w12 ⟨rfl, hq⟩; have T9 := Aside0.mk hq; clear hq))
          go_roundg k1
          case measure => omega
          case rel => exact ⟨i + 1, by simp, _, rfl, ⟨by omega⟩, ⟨by rw [HST.out, PX.out.1]; exact T9.out⟩⟩
        · have e2 : decide ((i : Int) < (Wn : Int)) = false := decide_eq_false (by omega)
          have TE : Aside0 (Txt w b a mb n Wn Hn M (headB Wn Hn ++ allTo M Wn (j + 1)) W) := ⟨by
            have := TI.out
            rw [show i = Wn by omega, List.append_assoc] at this
            exact this⟩
          go_wp2
          go_roundg q1
          case measure => omega
          case rel => exact ⟨j + 1, by simp, _, rfl, ⟨by omega⟩, TE⟩
    · have e1 : decide ((j : Int) < (Hn : Int)) = false := decide_eq_false (by omega)
      have TE : Aside0 (Txt w b a mb n Wn Hn M (textB Wn Hn M) W) := ⟨by
        have := TJ.out
        rw [show j = Hn by omega] at this
        exact this⟩
      go_wp2_with (go_at_call 22; (with_reducible refine (bldString TE.out.bld TE.out.size).mono ?_); rintro e w20 ⟨rfl, hb⟩)
      go_ret
      exact ⟨rfl, by rw [HBE.out]; exact TE.out.below.trans hb⟩
end Go.Proofs.YtibecmeajopmeaaDoor.G
