/- Add, in one word; alive. -/
import Derived.Test.YtibecmeajopmeaaDoorIAdd
namespace Go.Proofs.YtibecmeajopmeaaDoor.G
open Go.RowKit Go.Proofs.YtibecmeajopmeaaDoorW.PrintWords Go.Proofs.YtibecmeajopmeaaDoorW.PrintLast Go.Proofs.YtibecmeajopmeaaDoorW.PrintMore
set_option linter.unusedVariables false
set_option linter.unusedSimpArgs false
theorem add.calls {a mb n : Nat} {W H : Int} {M : Int → Int → Px} (x y : Int) (c : Col) (w : World) (h : Img w a mb n W H M) (hx : I64 x) (hy : I64 y) (hG : GoodM M) (hn : n < 1000000) :
    Calls Tryd.prog 9 #[.pointer (some ⟨a, 0, none⟩), .int .i64 x, .int .i64 y, .agg #[.int .i64 c.r, .int .i64 c.g, .int .i64 c.b]] w (AddPost a mb n W H M x y c w) := by
  cases hr : hasB W H x y with
  | false => exact addPlace.calls x y c w h hx hy hr
  | true =>
    cases hc : okC c with
    | false =>
      by_cases hl : c.r < 0 ∨ c.g < 0 ∨ c.b < 0
      · exact addLow.calls x y c w h hx hy hr hc hl
      · exact addHigh.calls x y c w h hx hy hr hc hl
    | true =>
      by_cases hp : (M x y).n ≥ 65536
      · exact addLimit.calls x y c w h hx hy hr hc hp
      · exact addOk.calls x y c w h hx hy hr hc (by omega) hG hn
theorem good_zero : GoodM (fun _ _ => Px.zero) := fun x y => by
  simp [Px.zero]
theorem good_add {W H : Int} {M : Int → Int → Px} {x y : Int} {c : Col} (hG : GoodM M) : GoodM (addM W H M x y c) := by
  unfold addM
  split
  · rename_i he
    have h1 : okC c = true ∧ (M x y).n < 65536 := by
      unfold addE at he
      by_cases q1 : hasB W H x y = false
      · rw [if_pos q1] at he
        exact absurd he (by decide)
      · rw [if_neg q1] at he
        by_cases q2 : okC c = false
        · rw [if_pos q2] at he
          exact absurd he (by decide)
        · rw [if_neg q2] at he
          by_cases q3 : (M x y).n ≥ 65536
          · rw [if_pos q3] at he
            exact absurd he (by decide)
          · exact ⟨by simpa using q2, by omega⟩
    have h2 := okC_no h1.1
    intro x' y'
    unfold setM
    split
    · have := hG x y
      show 0 ≤ (M x y).n + 1 ∧ (M x y).n + 1 ≤ 65536 ∧ 0 ≤ (M x y).r + c.r ∧ (M x y).r + c.r ≤ 255 * ((M x y).n + 1) ∧ 0 ≤ (M x y).g + c.g ∧ (M x y).g + c.g ≤ 255 * ((M x y).n + 1) ∧ 0 ≤ (M x y).b + c.b ∧ (M x y).b + c.b ≤ 255 * ((M x y).n + 1)
      omega
    · exact hG x' y'
  · exact hG
def aliveM : Int → Int → Px := addM 1 1 (addM 1 1 (fun _ _ => Px.zero) 0 0 ⟨1, 2, 3⟩) 0 0 ⟨2, 2, 2⟩
theorem aliveM_eq : aliveM 0 0 = ⟨3, 4, 5, 2⟩ := by rfl
theorem aliveT : textB 1 1 aliveM = [80, 51, 10, 49, 32, 49, 10, 50, 53, 53, 10, 49, 32, 50, 32, 50, 10] := by
  have h := aliveM_eq
  have e1 : colR ⟨3, 4, 5, 2⟩ = 1 := by kernel_rfl
  have e2 : colG ⟨3, 4, 5, 2⟩ = 2 := by kernel_rfl
  have e3 : colB ⟨3, 4, 5, 2⟩ = 2 := by kernel_rfl
  have d1 : Lib.itoa 1 = [49] := by simp [Lib.itoa, Lib.decDigits]
  have d2 : Lib.itoa 2 = [50] := by simp [Lib.itoa, Lib.decDigits]
  have d3 : Lib.itoa 255 = [50, 53, 53] := by simp [Lib.itoa, Lib.decDigits]
  simp [textB, headB, allTo, rowTo, pixB, lineB, lineTo, h, e1, e2, e3, rd, d1, d2, d3]
set_option maxHeartbeats 2000000 in
set_option maxRecDepth 100000 in
theorem alive.calls (w : World) (hP : Pow w) : Calls Tryd.prog 7 #[] w fun e w' => e = .returned (.bool true) ∧ Below w.heap.size w w' := by
  have HB := Aside0.mk (Below.refl w.heap.size w)
  have HP := Aside0.mk hP
  clear hP
  have z0 : I64 0 := by unfold I64; omega
  have Z0 := Aside0.mk z0
  clear z0
  have e1 : addE 1 1 0 0 ⟨1, 2, 3⟩ Px.zero = 0 := by rfl
  have e2 : addE 1 1 0 0 ⟨2, 2, 2⟩ (addM 1 1 (fun _ _ => Px.zero) 0 0 ⟨1, 2, 3⟩ 0 0) = 0 := by rfl
  have g11 : goodB 1 1 = true := by decide
  have G11 := Aside0.mk g11
  clear g11
  have E1 := Aside0.mk e1
  have E2 := Aside0.mk e2
  clear e1 e2
  have A1 : ∀ a mb w', Img w' a mb 0 1 1 (fun _ _ => Px.zero) → Calls Tryd.prog 9 #[.pointer (some ⟨a, 0, none⟩), .int .i64 0, .int .i64 0, .agg #[.int .i64 1, .int .i64 2, .int .i64 3]] w' fun e w'' => e = .returned (.int .i64 0) ∧ Added a mb 0 1 1 (fun _ _ => Px.zero) 0 0 ⟨1, 2, 3⟩ w' w'' := fun a mb w' h => by
    refine (add.calls 0 0 ⟨1, 2, 3⟩ w' h Z0.out Z0.out good_zero (by omega)).mono ?_
    rintro e w'' ⟨h1, h2⟩
    rw [E1.out] at h1
    exact ⟨h1, h2⟩
  have A2 : ∀ a mb w', Img w' a mb 1 1 1 (addM 1 1 (fun _ _ => Px.zero) 0 0 ⟨1, 2, 3⟩) → Calls Tryd.prog 9 #[.pointer (some ⟨a, 0, none⟩), .int .i64 0, .int .i64 0, .agg #[.int .i64 2, .int .i64 2, .int .i64 2]] w' fun e w'' => e = .returned (.int .i64 0) ∧ Added a mb 1 1 1 (addM 1 1 (fun _ _ => Px.zero) 0 0 ⟨1, 2, 3⟩) 0 0 ⟨2, 2, 2⟩ w' w'' := fun a mb w' h => by
    refine (add.calls 0 0 ⟨2, 2, 2⟩ w' h Z0.out Z0.out (good_add good_zero) (by omega)).mono ?_
    rintro e w'' ⟨h1, h2⟩
    rw [E2.out] at h1
    exact ⟨h1, h2⟩
  have TX : ∀ a mb w', Img w' a mb 2 1 1 aliveM → Pow w' → Calls Tryd.prog 13 #[.pointer (some ⟨a, 0, none⟩)] w' fun e w'' => e = .returned (.string { data := #[80, 51, 10, 49, 32, 49, 10, 50, 53, 53, 10, 49, 32, 50, 32, 50, 10] }) ∧ Below w'.heap.size w' w'' := fun a mb w' h hp => by
    refine (text.calls (Wn := 1) (Hn := 1) w' h (by omega) (by omega) hp).mono ?_
    rintro e w'' ⟨h1, h2⟩
    rw [aliveT] at h1
    exact ⟨h1, h2⟩
  go_enter Tryd.func7, Tryd.ntmps7
  go_wp2_with (first
   | (go_at_call 8; (with_reducible refine (newOk.calls 1 1 _ G11.out).mono ?_); rintro e w1 ⟨a, mb, rfl, hi, ha, hm, hb⟩; have IM := Aside0.mk hi; have GA := Aside0.mk ha; have GM := Aside0.mk hm; replace HB := Aside0.mk (below_step HB.out hb); clear hi ha hm hb)
   | (go_at_call 9; (with_reducible refine (A1 a mb _ IM.out).mono ?_); rintro e w2 ⟨rfl, hq⟩; have IM2 := Aside0.mk hq.img; replace HB := Aside0.mk (HB.out.trans (hq.below _ GM.out HB.out.size)); clear hq)
   | (go_at_call 9; (with_reducible refine (A2 a mb _ IM2.out).mono ?_); rintro e w3 ⟨rfl, hq⟩; have IM3 := Aside0.mk hq.img; replace HB := Aside0.mk (HB.out.trans (hq.below _ GM.out HB.out.size)); clear hq)
   | (go_at_call 13; (with_reducible refine (TX a mb _ IM3.out (HP.out.on HB.out)).mono ?_); rintro e w4 ⟨rfl, hb⟩; replace HB := Aside0.mk (below_step HB.out hb); clear hb))
  go_ret
  exact ⟨rfl, HB.out⟩
end Go.Proofs.YtibecmeajopmeaaDoor.G
