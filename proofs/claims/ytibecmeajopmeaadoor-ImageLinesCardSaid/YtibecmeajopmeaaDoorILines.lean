/- The walk of ImageLines. -/
import Derived.Test.YtibecmeajopmeaaDoorIAlive
import Derived.Test.YtibecmeajopmeaaDoorILinesP
namespace Go.Proofs.YtibecmeajopmeaaDoor.G
open Go.RowKit Go.Proofs.YtibecmeajopmeaaDoorW.PrintWords Go.Proofs.YtibecmeajopmeaaDoorW.PrintLast Go.Proofs.YtibecmeajopmeaaDoorW.PrintMore
set_option linter.unusedVariables false
set_option linter.unusedSimpArgs false
set_option maxHeartbeats 2000000 in
set_option maxRecDepth 100000 in
theorem lines.calls (W H : Int) (w : World) (hP : Pow w) : Calls Tryd.prog 6 #[.int .i64 W, .int .i64 H] w fun e w' => e = .returned (.bool true) ∧ Below w.heap.size w w' := by
  have HB := Aside0.mk (Below.refl w.heap.size w)
  have HP := Aside0.mk hP
  clear hP
  cases hg : goodB W H with
  | false =>
    have HGD := Aside0.mk hg
    clear hg
    go_enter Tryd.func6, Tryd.ntmps6
    go_wp2_with (first
     | (go_at_call 7; (with_reducible refine (alive.calls _ HP.out).mono ?_); rintro e w1 ⟨rfl, hb⟩; replace HB := Aside0.mk (below_step HB.out hb); clear hb)
     | (go_at_call 8; (with_reducible refine (newBad.calls W H _ HGD.out).mono ?_); rintro e w1 ⟨rfl, rfl⟩))
    go_ret
    exact ⟨rfl, HB.out⟩
  | true =>
    have HGD := Aside0.mk hg
    obtain ⟨g1, g2, g3, g4⟩ := of_decide_eq_true hg
    obtain ⟨Wn, hW⟩ : ∃ n : Nat, (n : Int) = W := ⟨W.toNat, by omega⟩
    obtain ⟨Hn, hH⟩ : ∃ n : Nat, (n : Int) = H := ⟨H.toNat, by omega⟩
    subst hW hH
    have hw : Wn ≤ 64 := by omega
    have hh : Hn ≤ 64 := by omega
    clear hg
    have NL := nl_text Wn Hn (fun _ _ => Px.zero)
    have LN : (textB Wn Hn (fun _ _ => Px.zero)).length ≤ 300000 := by
      have h1 := head_le hw hh
      have h2 := all_le (fun _ _ => Px.zero) hw Hn
      unfold textB
      rw [List.length_append]
      omega
    have TX : ∀ a mb w', Img w' a mb 0 Wn Hn (fun _ _ => Px.zero) → Pow w' → Calls Tryd.prog 13 #[.pointer (some ⟨a, 0, none⟩)] w' (TextPost Wn Hn (fun _ _ => Px.zero) w') := fun a mb w' h hp => text.calls w' h hw hh hp
    unfold TextPost at TX
    generalize textB Wn Hn (fun _ _ => Px.zero) = l at *
    obtain ⟨s, hs⟩ : ∃ s : ByteArray, (⟨l.toArray⟩ : ByteArray) = s := ⟨_, rfl⟩
    have hsz : s.size = l.length := by rw [← hs]; rfl
    rw [hs] at TX
    have HSZ := Aside0.mk hsz
    have HSS := Aside0.mk hs
    have HNL := Aside0.mk NL
    have hsl : (s.size : Int) ≤ 300000 := by omega
    clear hsz hs NL LN
    go_enter Tryd.func6, Tryd.ntmps6
    go_wp2_with (first
     | (go_at_call 7; (with_reducible refine (alive.calls _ HP.out).mono ?_); rintro e w1 ⟨rfl, hb⟩; replace HB := Aside0.mk (below_step HB.out hb); clear hb)
     | (go_at_call 8; (with_reducible refine (newOk.calls Wn Hn _ HGD.out).mono ?_); rintro e w2 ⟨a, mb, rfl, hi, ha, hm, hb⟩; have IM := Aside0.mk hi; replace HB := Aside0.mk (below_step HB.out hb); clear hi ha hm hb)
     | (go_at_call 13; (with_reducible refine (TX a mb _ IM.out (HP.out.on HB.out)).mono ?_); rintro e w3 ⟨rfl, hb⟩; replace HB := Aside0.mk (below_step HB.out hb); clear hb))
    clear TX
    go_loopg [8, 9] s.size (fun kq v8 v9 w' => ∃ j : Nat, v9 = .int .i64 j ∧ v8 = .int .i64 (nlTo l j) ∧ Aside0 (j + kq = s.size) ∧ w3 = w')
    case atStart => exact ⟨0, rfl, rfl, ⟨by omega⟩, rfl⟩
    case round =>
      obtain ⟨j, rfl, rfl, HJ, rfl⟩ := hrel
      have hj := HJ.out
      by_cases hlt : j < s.size
      · have e1 : decide ((j : Int) < (s.size : Int)) = true := decide_eq_true (by omega)
        have j0 : 0 ≤ (j : Int) := by omega
        have j1 : (j : Int) < (s.size : Int) := by omega
        cases gk with
        | zero => omega
        | succ k1 =>
        have hlt' : j < l.length := by rw [← HSZ.out]; exact hlt
        have hx : s[j] = l[j] := by
          have := HSS.out
          subst this
          rfl
        have hle := nlTo_le l j
        have hst := nlTo_step l hlt'
        have b0 : 0 ≤ (nlTo l j : Int) := by omega
        have b1 : (nlTo l j : Int) ≤ 300000 := by omega
        by_cases c : l[j] = 10
        · have e2 : ((s[j].toNat : Int) == 10) = true := by rw [hx, c]; rfl
          have HST : Aside0 (nlTo l (j + 1) = nlTo l j + 1) := ⟨by rw [hst, if_pos c]⟩
          clear hst hle c hx
          go_wp2
          go_roundg k1
          case measure => omega
          case rel => exact ⟨j + 1, by simp, by rw [HST.out]; simp, ⟨by omega⟩, rfl⟩
        · have e2 : ((s[j].toNat : Int) == 10) = false := by
            rw [hx]
            refine beq_eq_false_iff_ne.2 fun h => c (UInt8.toNat_inj.1 ?_)
            have h' : (l[j].toNat : Int) = 10 := h
            show l[j].toNat = 10
            omega
          have HST : Aside0 (nlTo l (j + 1) = nlTo l j) := ⟨by rw [hst, if_neg c]; rfl⟩
          clear hst hle c hx
          go_wp2
          go_roundg k1
          case measure => omega
          case rel => exact ⟨j + 1, by simp, by rw [HST.out], ⟨by omega⟩, rfl⟩
      · have e1 : decide ((j : Int) < (s.size : Int)) = false := decide_eq_false (by omega)
        have e2 : nlTo l j = 3 + Wn * Hn := by
          have : j = l.length := by rw [← HSZ.out]; omega
          rw [this, nlTo_all, HNL.out]
        rw [e2]
        have m1 : (Wn : Int) * (Hn : Int) ≤ 4096 := by
          have h1 : Wn * Hn ≤ 64 * 64 := Nat.mul_le_mul hw hh
          have h2 : ((Wn * Hn : Nat) : Int) ≤ 4096 := by omega
          rw [Int.natCast_mul] at h2
          exact h2
        have m0 : 0 ≤ (Wn : Int) * (Hn : Int) := Int.mul_nonneg (by omega) (by omega)
        clear e2
        go_wp2
        go_ret
        exact ⟨by simp, HB.out⟩
end Go.Proofs.YtibecmeajopmeaaDoor.G
