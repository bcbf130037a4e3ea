/- What MinFunc and Index answer over a cache's entries. -/
import Derived.Test.YtfhjdhhflpekiaaCKA
import Derived.Test.YtfhjdhhflpekiaaLitKit
namespace Go.Proofs.Ytfhjdhhflpekiaa.G
open Go.RowKit Go.Proofs.Cache Go.Proofs.YtfhjdhhflpekiaaW.PrintWords Go.Proofs.YtfhjdhhflpekiaaW.PrintLast Go.Proofs.YtfhjdhhflpekiaaW.PrintMore
set_option linter.unusedVariables false
set_option linter.unusedSimpArgs false
set_option maxHeartbeats 1000000 in
set_option maxRecDepth 100000 in
theorem minFunc.calls (B : Bd) (v : Value) (l : List Ent) (w : World) (h : w.ownsRow B 62 1 v l.length (ptrs l)) (he : ∀ e ∈ l, EntAt B w e) (h0 : 0 < l.length) :
    Calls Try.prog 30 #[v, .func (.func 31) #[] #[]] w fun x w' => x = .returned (l.getD (minAt (l.map (·.asked)) l.length) dE).p ∧ Drawn0 w w' := by
  obtain ⟨A, c, rfl, hc, hm, hg⟩ := kv_open h
  have HG := Aside0.mk hg
  clear hg
  have HM : ∀ j, 0 < j → minAt (l.map (·.asked)) j < j := fun j hj => minAt_lt _ j hj
  have HS : ∀ j, 0 < j → j < l.length → minAt (l.map (·.asked)) (j + 1) = if (l.getD j dE).asked < (l.getD (minAt (l.map (·.asked)) j) dE).asked then j else minAt (l.map (·.asked)) j := by
    intro j h0 hj
    have := HM j h0
    rw [minAt, asked_get hj, asked_get (show minAt (l.map (·.asked)) j < l.length by omega)]
  have HN := fun j hj => he _ (getE (l := l) (j := j) hj)
  have H1 := Aside0.mk HM
  have H2 := Aside0.mk HS
  have H3 := Aside0.mk HN
  have H4 : Aside0 (minAt (l.map (·.asked)) 1 = 0) := ⟨by simp [minAt]⟩
  have hmx : (l.length : Int) ≤ 9223372036854775807 := by unfold maxLen at hm; omega
  clear HM HS HN hm he h
  generalize minAt (l.map (·.asked)) = f at *
  generalize l.getD = q at *
  generalize l.length = n at *
  have c1 : decide ((n : Int) < 1) = false := decide_eq_false (by omega)
  have i00 : (0 : Int) < (n : Int) := by omega
  obtain ⟨g, rfl, hcell⟩ := HG.out 0 h0
  go_enter Try.func30, Try.ntmps30
  go_wp2
  go_loopg [5, 6] (n - 1) (fun kq v5 v6 w' => ∃ j : Nat, v6 = .int .i64 j ∧ v5 = (q (f j) dE).p ∧ Aside0 (j + kq = n) ∧ Aside0 (0 < j) ∧ Drawn0 w w')
  case atStart => exact ⟨1, rfl, by rw [H4.out], ⟨by omega⟩, ⟨by omega⟩, Drawn0.refl _⟩
  case round =>
    obtain ⟨j, rfl, rfl, HJ, HP, ⟨m1, rfl⟩⟩ := hrel
    have hj := HJ.out
    have hp := HP.out
    by_cases hlt : j < n
    · have c1 : decide ((j : Int) < (n : Int)) = true := decide_eq_true (by omega)
      have i0 : 0 ≤ (j : Int) := by omega
      have i1 : (j : Int) < (n : Int) := by omega
      have hcj : w.cell? ⟨g, j, none⟩ = some (q j dE).p := by
        obtain ⟨g', e, hc'⟩ := HG.out j hlt
        cases e
        exact hc'
      have hfj := H1.out j hp
      have ha : w.cell? ⟨(q j dE).b, 6, none⟩ = some (.int .i64 (q j dE).asked) := (blk_cell (H3.out j hlt).cells 6).trans rfl
      have hb : w.cell? ⟨(q (f j) dE).b, 6, none⟩ = some (.int .i64 (q (f j) dE).asked) := (blk_cell (H3.out (f j) (by omega)).cells 6).trans rfl
      have hS := H2.out j hp hlt
      have CL : ∀ m, Calls Try.prog 31 #[(q j dE).p, (q (f j) dE).p] (w.drewN m) fun e w' => e = .returned (.int .i64 (cmpI (q j dE).asked (q (f j) dE).asked)) ∧ Drawn0 (w.drewN m) w' := fun m => closure.calls _ _ _ _ (w.drewN m) ha hb
      clear ha hb hcell i00
      cases gk with
      | zero => omega
      | succ k1 =>
        unfold cmpI at CL
        by_cases cc : (q j dE).asked < (q (f j) dE).asked
        · rw [if_pos cc] at hS
          simp only [if_pos cc] at CL
          clear cc
          go_wp2_with (go_at_call 31; (with_reducible refine (CL _).mono ?_); rintro e w' ⟨rfl, ⟨m2, rfl⟩⟩)
          go_roundg k1
          case measure => omega
          case rel => exact ⟨j + 1, by simp, by rw [hS], ⟨by omega⟩, ⟨by omega⟩, by repeat (first | exact Drawn0.refl _ | apply Drawn0.step)⟩
        · rw [if_neg cc] at hS
          simp only [if_neg cc] at CL
          by_cases c2 : (q (f j) dE).asked < (q j dE).asked
          · simp only [if_pos c2] at CL
            clear cc c2
            go_wp2_with (go_at_call 31; (with_reducible refine (CL _).mono ?_); rintro e w' ⟨rfl, ⟨m2, rfl⟩⟩)
            go_roundg k1
            case measure => omega
            case rel => exact ⟨j + 1, by simp, by rw [hS], ⟨by omega⟩, ⟨by omega⟩, by repeat (first | exact Drawn0.refl _ | apply Drawn0.step)⟩
          · simp only [if_neg c2] at CL
            clear cc c2
            go_wp2_with (go_at_call 31; (with_reducible refine (CL _).mono ?_); rintro e w' ⟨rfl, ⟨m2, rfl⟩⟩)
            go_roundg k1
            case measure => omega
            case rel => exact ⟨j + 1, by simp, by rw [hS], ⟨by omega⟩, ⟨by omega⟩, by repeat (first | exact Drawn0.refl _ | apply Drawn0.step)⟩
    · have c1 : decide ((j : Int) < (n : Int)) = false := decide_eq_false (by omega)
      have e1 : j = n := by omega
      subst e1
      go_wp2
      go_ret
      exact ⟨rfl, by repeat (first | exact Drawn0.refl _ | apply Drawn0.step)⟩
end Go.Proofs.Ytfhjdhhflpekiaa.G
