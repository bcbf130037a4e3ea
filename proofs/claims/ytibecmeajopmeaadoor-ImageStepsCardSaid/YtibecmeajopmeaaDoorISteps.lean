/- The walk of ImageSteps. -/
import Derived.Test.YtibecmeajopmeaaDoorIRefM
namespace Go.Proofs.YtibecmeajopmeaaDoor.G
open Go.RowKit Go.Proofs.YtibecmeajopmeaaDoorW.PrintWords Go.Proofs.YtibecmeajopmeaaDoorW.PrintLast Go.Proofs.YtibecmeajopmeaaDoorW.PrintMore
set_option linter.unusedVariables false
set_option linter.unusedSimpArgs false
/-- What At answers, in one. -/
def atC (W H : Int) (M : Int → Int → Px) (x y : Int) : S33 := if hasB W H x y = true then colC (M x y) else z33
theorem AtPost.eq {W H : Int} {M : Int → Int → Px} {x y : Int} {w w' : World} {e : Ending} (h : AtPost W H M x y w e w') : e = .returned (.tuple #[.agg #[.int .i64 (atC W H M x y).f0, .int .i64 (atC W H M x y).f1, .int .i64 (atC W H M x y).f2], .bool (hasB W H x y)]) ∧ Below w.heap.size w w' := by
  obtain ⟨h1, h2⟩ := h
  refine ⟨?_, h2⟩
  unfold atC
  cases hb : hasB W H x y with
  | true =>
    rw [hb] at h1
    exact h1
  | false =>
    rw [hb] at h1
    exact h1
theorem both_e {W H : Int} {M : Int → Int → Px} (s : S35) (hn : (M s.f0 s.f1).n < 65536) : addE W H s.f0 s.f1 (colS s) (M s.f0 s.f1) = radE W H s := by
  unfold addE radE
  have : ¬ (M s.f0 s.f1).n ≥ 65536 := by omega
  rw [if_neg this]
theorem Img.kept35 {B b : Nat} {W H : Int} {l : List S35} {s : S35} {w w1 : World} {a mb n : Nat} {W2 H2 : Int} {M : Int → Int → Px} (h : Img w a mb n W2 H2 M) (hq : RAdded B b W H l s w w1) (h1 : a ≠ b) (h2 : mb ≠ b) : Img w1 a mb n W2 H2 M := by
  refine ⟨(hq.kept a (blk_lt h.cells) h1 ?_).trans h.cells, h.map.same (hq.kept mb h.map.lt h2 fun cells => h.map.no_cells)⟩
  intro cells hc
  rw [h.cells] at hc
  injection hc with hc
  injection hc with _ hc _
  exact absurd hc (by decide)
set_option maxHeartbeats 4000000 in
set_option maxRecDepth 100000 in
theorem stepsLong.calls (W H : Int) (A : Option Addr) (c : Nat) (l : List S35) (x y : Int) (w : World) (hP : Pow w) (hr : Kd.C k35 w A l.length l) (hc : l.length ≤ c) (hi : ∀ s ∈ l, I64s s) (hlm : l.length ≤ 9223372036854775807) (hx : I64 x) (hy : I64 y) (hn : 300 < l.length) :
    Calls Tryd.prog 3 #[.int .i64 W, .int .i64 H, .slice A l.length c, .int .i64 x, .int .i64 y] w fun e w' => e = .returned (.bool true) ∧ Below w.heap.size w w' := by
  have HB := Aside0.mk (Below.refl w.heap.size w)
  have HP := Aside0.mk hP
  have HR := Aside0.mk hr
  have HI := Aside0.mk hi
  have HXY := Aside0.mk (And.intro hx hy)
  have d1 : decide ((l.length : Int) > 300) = true := decide_eq_true (by omega)
  clear hP hr hc hi hn hlm hx hy
  go_enter Tryd.func3, Tryd.ntmps3
  go_wp2_with (first
   | (go_at_call 7; (with_reducible refine (alive.calls _ (HP.out.on HB.out)).mono ?_); rintro e w2 ⟨rfl, hb⟩; replace HB := Aside0.mk (below_step HB.out hb); clear hb))
  go_ret
  exact ⟨rfl, HB.out⟩
set_option maxHeartbeats 4000000 in
set_option maxRecDepth 100000 in
theorem stepsBad0.calls (W H : Int) (A : Option Addr) (c : Nat) (l : List S35) (x y : Int) (w : World) (hP : Pow w) (hr : Kd.C k35 w A l.length l) (hc : l.length ≤ c) (hi : ∀ s ∈ l, I64s s) (hlm : l.length ≤ 9223372036854775807) (hx : I64 x) (hy : I64 y) (hn : ¬ 300 < l.length)  (h0 : W < 1) :
    Calls Tryd.prog 3 #[.int .i64 W, .int .i64 H, .slice A l.length c, .int .i64 x, .int .i64 y] w fun e w' => e = .returned (.bool true) ∧ Below w.heap.size w w' := by
  have HB := Aside0.mk (Below.refl w.heap.size w)
  have HP := Aside0.mk hP
  have HR := Aside0.mk hr
  have HI := Aside0.mk hi
  have HXY := Aside0.mk (And.intro hx hy)
  have hg : goodB W H = false := decide_eq_false (by omega)
  have HGD := Aside0.mk hg
  have d1 : decide ((l.length : Int) > 300) = false := decide_eq_false (by omega)
  have q0 : decide (W < 1) = true := decide_eq_true h0
  clear hP hr hc hi hn hlm hx hy hg h0
  go_enter Tryd.func3, Tryd.ntmps3
  go_wp2_with (first
   | (go_at_call 7; (with_reducible refine (alive.calls _ (HP.out.on HB.out)).mono ?_); rintro e w2 ⟨rfl, hb⟩; replace HB := Aside0.mk (below_step HB.out hb); clear hb)
   | (go_at_call 8; (with_reducible refine (newBad.calls W H _ HGD.out).mono ?_); rintro e w1 ⟨rfl, rfl⟩))
  go_ret
  exact ⟨rfl, HB.out⟩
set_option maxHeartbeats 4000000 in
set_option maxRecDepth 100000 in
theorem stepsBad1.calls (W H : Int) (A : Option Addr) (c : Nat) (l : List S35) (x y : Int) (w : World) (hP : Pow w) (hr : Kd.C k35 w A l.length l) (hc : l.length ≤ c) (hi : ∀ s ∈ l, I64s s) (hlm : l.length ≤ 9223372036854775807) (hx : I64 x) (hy : I64 y) (hn : ¬ 300 < l.length) (h0 : ¬ W < 1) (h1 : W > 64) :
    Calls Tryd.prog 3 #[.int .i64 W, .int .i64 H, .slice A l.length c, .int .i64 x, .int .i64 y] w fun e w' => e = .returned (.bool true) ∧ Below w.heap.size w w' := by
  have HB := Aside0.mk (Below.refl w.heap.size w)
  have HP := Aside0.mk hP
  have HR := Aside0.mk hr
  have HI := Aside0.mk hi
  have HXY := Aside0.mk (And.intro hx hy)
  have hg : goodB W H = false := decide_eq_false (by omega)
  have HGD := Aside0.mk hg
  have d1 : decide ((l.length : Int) > 300) = false := decide_eq_false (by omega)
  have q0 : decide (W < 1) = false := decide_eq_false h0
  have q1 : decide (W > 64) = true := decide_eq_true h1
  clear hP hr hc hi hn hlm hx hy hg h0 h1
  go_enter Tryd.func3, Tryd.ntmps3
  go_wp2_with (first
   | (go_at_call 7; (with_reducible refine (alive.calls _ (HP.out.on HB.out)).mono ?_); rintro e w2 ⟨rfl, hb⟩; replace HB := Aside0.mk (below_step HB.out hb); clear hb)
   | (go_at_call 8; (with_reducible refine (newBad.calls W H _ HGD.out).mono ?_); rintro e w1 ⟨rfl, rfl⟩))
  go_ret
  exact ⟨rfl, HB.out⟩
set_option maxHeartbeats 4000000 in
set_option maxRecDepth 100000 in
theorem stepsBad2.calls (W H : Int) (A : Option Addr) (c : Nat) (l : List S35) (x y : Int) (w : World) (hP : Pow w) (hr : Kd.C k35 w A l.length l) (hc : l.length ≤ c) (hi : ∀ s ∈ l, I64s s) (hlm : l.length ≤ 9223372036854775807) (hx : I64 x) (hy : I64 y) (hn : ¬ 300 < l.length) (h0 : ¬ W < 1) (h1 : ¬ W > 64) (h2 : H < 1) :
    Calls Tryd.prog 3 #[.int .i64 W, .int .i64 H, .slice A l.length c, .int .i64 x, .int .i64 y] w fun e w' => e = .returned (.bool true) ∧ Below w.heap.size w w' := by
  have HB := Aside0.mk (Below.refl w.heap.size w)
  have HP := Aside0.mk hP
  have HR := Aside0.mk hr
  have HI := Aside0.mk hi
  have HXY := Aside0.mk (And.intro hx hy)
  have hg : goodB W H = false := decide_eq_false (by omega)
  have HGD := Aside0.mk hg
  have d1 : decide ((l.length : Int) > 300) = false := decide_eq_false (by omega)
  have q0 : decide (W < 1) = false := decide_eq_false h0
  have q1 : decide (W > 64) = false := decide_eq_false h1
  have q2 : decide (H < 1) = true := decide_eq_true h2
  clear hP hr hc hi hn hlm hx hy hg h0 h1 h2
  go_enter Tryd.func3, Tryd.ntmps3
  go_wp2_with (first
   | (go_at_call 7; (with_reducible refine (alive.calls _ (HP.out.on HB.out)).mono ?_); rintro e w2 ⟨rfl, hb⟩; replace HB := Aside0.mk (below_step HB.out hb); clear hb)
   | (go_at_call 8; (with_reducible refine (newBad.calls W H _ HGD.out).mono ?_); rintro e w1 ⟨rfl, rfl⟩))
  go_ret
  exact ⟨rfl, HB.out⟩
set_option maxHeartbeats 4000000 in
set_option maxRecDepth 100000 in
theorem stepsBad3.calls (W H : Int) (A : Option Addr) (c : Nat) (l : List S35) (x y : Int) (w : World) (hP : Pow w) (hr : Kd.C k35 w A l.length l) (hc : l.length ≤ c) (hi : ∀ s ∈ l, I64s s) (hlm : l.length ≤ 9223372036854775807) (hx : I64 x) (hy : I64 y) (hn : ¬ 300 < l.length) (h0 : ¬ W < 1) (h1 : ¬ W > 64) (h2 : ¬ H < 1) (h3 : H > 64) :
    Calls Tryd.prog 3 #[.int .i64 W, .int .i64 H, .slice A l.length c, .int .i64 x, .int .i64 y] w fun e w' => e = .returned (.bool true) ∧ Below w.heap.size w w' := by
  have HB := Aside0.mk (Below.refl w.heap.size w)
  have HP := Aside0.mk hP
  have HR := Aside0.mk hr
  have HI := Aside0.mk hi
  have HXY := Aside0.mk (And.intro hx hy)
  have hg : goodB W H = false := decide_eq_false (by omega)
  have HGD := Aside0.mk hg
  have d1 : decide ((l.length : Int) > 300) = false := decide_eq_false (by omega)
  have q0 : decide (W < 1) = false := decide_eq_false h0
  have q1 : decide (W > 64) = false := decide_eq_false h1
  have q2 : decide (H < 1) = false := decide_eq_false h2
  have q3 : decide (H > 64) = true := decide_eq_true h3
  clear hP hr hc hi hn hlm hx hy hg h0 h1 h2 h3
  go_enter Tryd.func3, Tryd.ntmps3
  go_wp2_with (first
   | (go_at_call 7; (with_reducible refine (alive.calls _ (HP.out.on HB.out)).mono ?_); rintro e w2 ⟨rfl, hb⟩; replace HB := Aside0.mk (below_step HB.out hb); clear hb)
   | (go_at_call 8; (with_reducible refine (newBad.calls W H _ HGD.out).mono ?_); rintro e w1 ⟨rfl, rfl⟩))
  go_ret
  exact ⟨rfl, HB.out⟩
set_option maxHeartbeats 4000000 in
set_option maxRecDepth 100000 in
theorem stepsGood.calls (W H : Int) (A : Option Addr) (c : Nat) (l : List S35) (x y : Int) (w : World) (hP : Pow w) (hr : Kd.C k35 w A l.length l) (hc : l.length ≤ c) (hi : ∀ s ∈ l, I64s s) (hlm : l.length ≤ 9223372036854775807) (hx : I64 x) (hy : I64 y) (hn : ¬ 300 < l.length) (hg : goodB W H = true) :
    Calls Tryd.prog 3 #[.int .i64 W, .int .i64 H, .slice A l.length c, .int .i64 x, .int .i64 y] w fun e w' => e = .returned (.bool true) ∧ Below w.heap.size w w' := by
  have HB := Aside0.mk (Below.refl w.heap.size w)
  have HP := Aside0.mk hP
  have HR := Aside0.mk hr
  have HI := Aside0.mk hi
  have HXY := Aside0.mk (And.intro hx hy)
  have d1 : decide ((l.length : Int) > 300) = false := decide_eq_false (by omega)
  have HGD := Aside0.mk hg
  obtain ⟨g1, g2, g3, g4⟩ := of_decide_eq_true hg
  have q0 : decide (W < 1) = false := decide_eq_false (by omega)
  have q1 : decide (W > 64) = false := decide_eq_false (by omega)
  have q2 : decide (H < 1) = false := decide_eq_false (by omega)
  have q3 : decide (H > 64) = false := decide_eq_false (by omega)
  obtain ⟨Wn, hW⟩ : ∃ n : Nat, (n : Int) = W := ⟨W.toNat, by omega⟩
  obtain ⟨Hn, hH⟩ : ∃ n : Nat, (n : Int) = H := ⟨H.toNat, by omega⟩
  subst hW hH
  have HWH : Aside0 (Wn ≤ 64 ∧ Hn ≤ 64) := ⟨by omega⟩
  have ll : (l.length : Int) ≤ 300 := by omega
  have HC := Aside0.mk hc
  clear hP hr hc hi hn hlm hx hy hg
  go_enter Tryd.func3, Tryd.ntmps3
  go_wp2_with (first
   | (go_at_call 7; (with_reducible refine (alive.calls _ (HP.out.on HB.out)).mono ?_); rintro e w2 ⟨rfl, hb⟩; replace HB := Aside0.mk (below_step HB.out hb); clear hb)
   | (go_at_call 8; (with_reducible refine (newOk.calls Wn Hn _ HGD.out).mono ?_); rintro e w3 ⟨a, ma, rfl, hi, ha, hm, hb⟩; have IM := Aside0.mk hi; have GA := Aside0.mk (Nat.le_trans HB.out.size hm); replace HB := Aside0.mk (below_step HB.out hb); clear hi ha hm hb)
   | ((with_reducible refine gate_dst (N := 59) rfl ?_); refine box_event ?hg (N := 59) ?hd (cs := #[.int .i64 (Wn : Int), .int .i64 (Hn : Int), .slice none 0 0]) (t := 30) ?hr ?_; (case hd => rfl); (case hg => rfl); (case hr => first | (go_simp; done) | (go_simp; rfl)); intro g59 hg w5 hbox hb; have BK59 := Aside0.mk hbox; have GE59 := Aside0.mk (bG hg HB.out); have NE : Aside0 (a ≠ g59 ∧ ma ≠ g59) := ⟨by have h1 := blk_lt IM.out.cells; have h2 := IM.out.map.lt; omega⟩; replace IM := Aside0.mk (IM.out.below hb); have IR : Aside0 (RIm w.heap.size w5 g59 (.slice none 0 0) [] Wn Hn) := ⟨⟨hbox, Kd.R_nil _ _ _ _ _, GE59.out⟩⟩; replace HB := Aside0.mk (below_step HB.out hb); clear hg hbox hb))
  clear q0 q1 q2 q3
  go_loopg [14] l.length (fun kq v14 w' => ∃ j : Nat, v14 = .int .i64 j ∧ ∃ W', W' = w' ∧ Aside0 (j + kq = l.length) ∧ Aside0 (Img W' a ma j Wn Hn (foldM Wn Hn (l.take j))) ∧ (∃ v, Aside0 (RIm w.heap.size W' g59 v (keptL Wn Hn (l.take j)) Wn Hn)) ∧ Aside0 (Below w.heap.size w W'))
  case atStart => exact ⟨0, rfl, _, rfl, ⟨by omega⟩, IM, ⟨_, IR⟩, HB⟩
  case round =>
    clear IM IR HB BK59
    obtain ⟨j, rfl, W', rfl, HJ, IM, ⟨v, IR⟩, HB⟩ := hrel
    have hj := HJ.out
    by_cases hlt : j < l.length
    · have e1 : decide ((j : Int) < (l.length : Int)) = true := decide_eq_true (by omega)
      obtain ⟨s, hs⟩ : ∃ s, l[j]? = some s := ⟨_, List.getElem?_eq_getElem hlt⟩
      have RS := Aside0.mk (fold_next Wn Hn l hs)
      have KS : Aside0 (keptL Wn Hn (l.take (j + 1)) = accL Wn Hn (keptL Wn Hn (l.take j)) s) := ⟨by rw [List.take_add_one, hs]; exact kept_snoc Wn Hn _ s⟩
      have KL : Aside0 ((keptL Wn Hn (l.take j)).length ≤ 1000) := ⟨by have h1 := kept_len Wn Hn (l.take j); rw [List.length_take] at h1; omega⟩
      have I1 := Aside0.mk (HI.out s (List.mem_of_getElem? hs))
      have GDA := Aside0.mk (fold_good Wn Hn (l.take j))
      have hE : addE Wn Hn s.f0 s.f1 (colS s) (foldM Wn Hn (l.take j) s.f0 s.f1) = radE Wn Hn s := both_e s (by
        rw [fold_sum Wn Hn l j (by omega) (by omega)]
        have h1 := sumN_le Wn Hn s.f0 s.f1 (l.take j)
        rw [List.length_take] at h1
        show sumI _ _ < 65536
        omega)
      obtain ⟨ad, rfl, _⟩ := at_T35 HR.out (j : Int) (by omega) (by omega)
      have X1 : Aside0 (∀ W'', Below w.heap.size w W'' → _) := ⟨fun W'' hb => at35 (Kd.C_below HR.out hb) hlt hs⟩
      have j0 : 0 ≤ (j : Int) := by omega
      have j1 : (j : Int) < (l.length : Int) := by omega
      clear hs
      generalize foldM Wn Hn (l.take j) = MA at *
      generalize keptL Wn Hn (l.take j) = KA at *
      obtain ⟨E, hEE⟩ : ∃ E, radE Wn Hn s = E := ⟨_, rfl⟩
      rw [hEE] at hE
      have AC : ∀ w', Img w' a ma j Wn Hn MA → Calls Tryd.prog 9 #[.pointer (some ⟨a, 0, none⟩), .int .i64 s.f0, .int .i64 s.f1, .agg #[.int .i64 s.f2.f0, .int .i64 s.f2.f1, .int .i64 s.f2.f2]] w' (fun e w2 => e = .returned (.int .i64 E) ∧ Img w2 a ma (j + 1) Wn Hn (stepM Wn Hn MA s) ∧ Added a ma j Wn Hn MA s.f0 s.f1 (colS s) w' w2) := fun w' h => by
        have := addS.calls s w' h I1.out.1 I1.out.2.1 GDA.out (by omega)
        rw [hE] at this
        exact this
      have RC : ∀ w', RIm w.heap.size w' g59 v KA Wn Hn → Calls Tryd.prog 10 #[.pointer (some ⟨g59, 0, none⟩), .agg #[.int .i64 s.f0, .int .i64 s.f1, .int .i64 s.f2.f0, .int .i64 s.f2.f1, .int .i64 s.f2.f2]] w' (fun e w2 => e = .returned (.int .i64 E) ∧ RAdded w.heap.size g59 Wn Hn KA s w' w2) := fun w' h => by
        have := radd.calls s w' h KL.out
        unfold RAddPost at this
        rw [hEE] at this
        exact this
      clear hE hEE
      cases gk with
      | zero => omega
      | succ k1 =>
      go_wp2
      go_region_held3 (fun w' => w'.cell? (ad.add (j * 5)) = some (.int .i64 s.f0) ∧ w'.cell? ⟨(ad.add (j * 5)).block, (ad.add (j * 5)).off + 1, none⟩ = some (.int .i64 s.f1) ∧ w'.cell? ⟨(ad.add (j * 5)).block, (ad.add (j * 5)).off + 2, none⟩ = some (.int .i64 s.f2.f0) ∧ w'.cell? ⟨(ad.add (j * 5)).block, (ad.add (j * 5)).off + 3, none⟩ = some (.int .i64 s.f2.f1) ∧ w'.cell? ⟨(ad.add (j * 5)).block, (ad.add (j * 5)).off + 4, none⟩ = some (.int .i64 s.f2.f2)) (first | exact YC.out | exact X1.out _ HB.out | exact X1.out _ (below_drew1 HB.out)) (first
       | (go_at_call 9; (with_reducible refine (AC _ (IM.out.below (by first | exact Below.refl _ _ | exact below_drew1 (Below.refl _ _)))).mono ?_); rintro e w9 ⟨rfl, hi, hq⟩
          replace IR := Aside0.mk ((IR.out.below (by first | exact Below.refl _ _ | exact below_drew1 (Below.refl _ _))).kept hq.kept (Ne.symm NE.out.2) (fun cells => (IM.out.below (by first | exact Below.refl _ _ | exact below_drew1 (Below.refl _ _))).map.no_cells))
          replace HB := Aside0.mk (Below.trans (by first | exact HB.out | exact below_drew1 HB.out) (hq.below _ GA.out (Below.size (by first | exact HB.out | exact below_drew1 HB.out : Below w.heap.size w _))))
          replace IM := Aside0.mk hi
          have YC := Aside0.mk (X1.out w9 HB.out)
          clear hi hq)
       | (go_at_call 10; (with_reducible refine (RC _ (IR.out.below (by first | exact Below.refl _ _ | exact below_drew1 (Below.refl _ _)))).mono ?_); rintro e w10 ⟨rfl, hq⟩
          replace IM := Aside0.mk ((IM.out.below (by first | exact Below.refl _ _ | exact below_drew1 (Below.refl _ _))).kept35 hq NE.out.1 NE.out.2)
          replace HB := Aside0.mk (Below.trans (by first | exact HB.out | exact below_drew1 HB.out) hq.below)
          obtain ⟨v', hv'⟩ := hq.im
          replace IR := Aside0.mk hv'
          have YC := Aside0.mk (X1.out w10 HB.out)
          clear hq hv'))
      all_goals
        go_wp2
        go_roundg k1
        case measure => omega
        case rel => exact ⟨j + 1, by simp, _, rfl, ⟨by omega⟩, ⟨by rw [RS.out]; exact IM.out⟩, ⟨_, ⟨by rw [KS.out]; exact IR.out⟩⟩, HB⟩
    · have e1 : decide ((j : Int) < (l.length : Int)) = false := decide_eq_false (by omega)
      have hjj : l.take j = l := by rw [show j = l.length by omega, List.take_length]
      rw [hjj] at IM IR
      have KL : (keptL Wn Hn l).length ≤ 1000 := by have h1 := kept_len Wn Hn l; omega
      have AI : ∀ w', Img w' a ma j Wn Hn (foldM Wn Hn l) → Calls Tryd.prog 11 #[.pointer (some ⟨a, 0, none⟩), .int .i64 x, .int .i64 y] w' (fun e w2 => e = .returned (.tuple #[.agg #[.int .i64 (atC Wn Hn (foldM Wn Hn l) x y).f0, .int .i64 (atC Wn Hn (foldM Wn Hn l) x y).f1, .int .i64 (atC Wn Hn (foldM Wn Hn l) x y).f2], .bool (hasB Wn Hn x y)]) ∧ Below w'.heap.size w' w2) := fun w' h => (at.calls x y w' h HXY.out.1 HXY.out.2).mono fun e w2 q => q.eq
      have AR : ∀ w', RIm w.heap.size w' g59 v (keptL Wn Hn l) Wn Hn → Calls Tryd.prog 12 #[.pointer (some ⟨g59, 0, none⟩), .int .i64 x, .int .i64 y] w' (fun e w2 => e = .returned (.tuple #[.agg #[.int .i64 (atC Wn Hn (foldM Wn Hn l) x y).f0, .int .i64 (atC Wn Hn (foldM Wn Hn l) x y).f1, .int .i64 (atC Wn Hn (foldM Wn Hn l) x y).f2], .bool (hasB Wn Hn x y)]) ∧ Below w'.heap.size w' w2) := fun w' h => (rat.calls x y w' h (fun s hs => kept_acc hs) KL).mono fun e w2 q => by rw [kept_fold] at q; exact q.eq
      have TI : ∀ w', Img w' a ma j Wn Hn (foldM Wn Hn l) → Pow w' → Calls Tryd.prog 13 #[.pointer (some ⟨a, 0, none⟩)] w' (TextPost Wn Hn (foldM Wn Hn l) w') := fun w' h hp => text.calls w' h HWH.out.1 HWH.out.2 hp
      have TR : ∀ w', RIm w.heap.size w' g59 v (keptL Wn Hn l) Wn Hn → Calls Tryd.prog 14 #[.pointer (some ⟨g59, 0, none⟩)] w' (TextPost Wn Hn (foldM Wn Hn l) w') := fun w' h => by
        have := rtext.calls w' h (fun s hs => kept_acc hs) KL HWH.out.1 HWH.out.2
        rw [kept_fold] at this
        exact this
      unfold TextPost at TI TR
      obtain ⟨P, hP⟩ : ∃ P : Int, (Wn : Int) * (Hn : Int) = P := ⟨_, rfl⟩
      have hp0 : 0 ≤ P ∧ P ≤ 4096 := by
        have h1 := HWH.out
        have h2 : Wn * Hn ≤ 64 * 64 := Nat.mul_le_mul h1.1 h1.2
        have h3 : ((Wn * Hn : Nat) : Int) = P := by rw [Int.natCast_mul]; exact hP
        omega
      have p0 := hp0.1
      have p1 := hp0.2
      clear hjj KL hp0
      generalize foldM Wn Hn l = M at *
      generalize keptL Wn Hn l = KK at *
      generalize atC Wn Hn M x y = c0 at *
      generalize hasB Wn Hn x y = ok at *
      generalize (⟨(textB Wn Hn M).toArray⟩ : ByteArray) = tx at *
      have cs1 := col_same c0.f0 c0.f1 c0.f2
      by_cases hp : P > 300
      · have e2 : decide (P > 300) = true := decide_eq_true hp
        go_wp2_with (first
         | (go_at_call 11; (with_reducible refine (AI _ IM.out).mono ?_); rintro e w11 ⟨rfl, hb⟩; replace IM := Aside0.mk (IM.out.below hb); replace IR := Aside0.mk (IR.out.below hb); replace HB := Aside0.mk (below_step HB.out hb); clear hb)
         | ((with_reducible refine gate_dst (N := 15) rfl ?_); refine box_event ?hg (N := 15) ?hd (cs := #[.int .i64 0, .int .i64 0, .int .i64 0]) (t := 33) ?hr ?_; (case hd => rfl); (case hg => rfl); (case hr => first | (go_simp; done) | (go_simp; rfl)); intro g15 hg w12 hbox hb; have BK15 := Aside0.mk hbox; have GE15 := Aside0.mk (bG hg HB.out); replace IM := Aside0.mk (IM.out.below hb); replace IR := Aside0.mk (IR.out.below hb); replace HB := Aside0.mk (below_step HB.out hb); clear hg hbox hb)
         | ((with_reducible refine gate_store2 (t := 33) (x := .tmp 15) (y := .tmp 95) rfl ?_); refine ev_row (B := w.heap.size) (w0 := w) rfl 33 (.tmp 15) (.tmp 95) rfl rfl g15 #[.int .i64 c0.f0, .int .i64 c0.f1, .int .i64 c0.f2] ?hx ?hy 33 _ BK15.out (by kernel_rfl) rfl (by simp [Value.oneCell']) HB.out GE15.out ?_; (case hx => first | (go_simp; done) | rfl); (case hy => first | (go_simp; done) | rfl | (go_simp; rfl)); intro w13 hbox hb hk; replace IM := Aside0.mk (IM.out.but33 BK15.out hk); replace IR := Aside0.mk (IR.out.but BK15.out (by decide) (by decide) hk); replace BK15 := Aside0.mk hbox; replace HB := Aside0.mk hb; clear hbox hb hk)
         | (go_at_call 12; (with_reducible refine (AR _ IR.out).mono ?_); rintro e w14 ⟨rfl, hb⟩; replace IM := Aside0.mk (IM.out.below hb); replace IR := Aside0.mk (IR.out.below hb); replace BK15 := cB hb BK15; replace HB := Aside0.mk (below_step HB.out hb); clear hb)
         | ((with_reducible refine gate_dst (N := 17) rfl ?_); refine box_event ?hg (N := 17) ?hd (cs := #[.int .i64 0, .int .i64 0, .int .i64 0]) (t := 33) ?hr ?_; (case hd => rfl); (case hg => rfl); (case hr => first | (go_simp; done) | (go_simp; rfl)); intro g17 hg w15 hbox hb; have BK17 := Aside0.mk hbox; have GE17 := Aside0.mk (bG hg HB.out); replace IM := Aside0.mk (IM.out.below hb); replace IR := Aside0.mk (IR.out.below hb); have N17 := cN hg BK15; replace BK15 := cB hb BK15; replace HB := Aside0.mk (below_step HB.out hb); clear hg hbox hb)
         | ((with_reducible refine gate_store2 (t := 33) (x := .tmp 17) (y := .tmp 102) rfl ?_); refine ev_row (B := w.heap.size) (w0 := w) rfl 33 (.tmp 17) (.tmp 102) rfl rfl g17 #[.int .i64 c0.f0, .int .i64 c0.f1, .int .i64 c0.f2] ?hx ?hy 33 _ BK17.out (by kernel_rfl) rfl (by simp [Value.oneCell']) HB.out GE17.out ?_; (case hx => first | (go_simp; done) | rfl); (case hy => first | (go_simp; done) | rfl | (go_simp; rfl)); intro w16 hbox hb hk; replace IM := Aside0.mk (IM.out.but33 BK17.out hk); replace IR := Aside0.mk (IR.out.but BK17.out (by decide) (by decide) hk); replace BK15 := Aside0.mk ((hk _ N17.out).trans BK15.out); replace BK17 := Aside0.mk hbox; replace HB := Aside0.mk hb; have z15_0 : w16.cell? ⟨g15, 0, none⟩ = some (.int .i64 c0.f0) := (blk_cell BK15.out 0).trans rfl; have z15_1 : w16.cell? ⟨g15, 1, none⟩ = some (.int .i64 c0.f1) := (blk_cell BK15.out 1).trans rfl; have z15_2 : w16.cell? ⟨g15, 2, none⟩ = some (.int .i64 c0.f2) := (blk_cell BK15.out 2).trans rfl; have z17_0 : w16.cell? ⟨g17, 0, none⟩ = some (.int .i64 c0.f0) := (blk_cell BK17.out 0).trans rfl; have z17_1 : w16.cell? ⟨g17, 1, none⟩ = some (.int .i64 c0.f1) := (blk_cell BK17.out 1).trans rfl; have z17_2 : w16.cell? ⟨g17, 2, none⟩ = some (.int .i64 c0.f2) := (blk_cell BK17.out 2).trans rfl; clear hbox hb hk)
         | (go_at_call 13; (with_reducible refine (TI _ IM.out (HP.out.on HB.out)).mono ?_); rintro e w17 ⟨rfl, hb⟩; replace IM := Aside0.mk (IM.out.below hb); replace IR := Aside0.mk (IR.out.below hb); replace HB := Aside0.mk (below_step HB.out hb); clear hb)
         | (go_at_call 14; (with_reducible refine (TR _ IR.out).mono ?_); rintro e w18 ⟨rfl, hb⟩; replace HB := Aside0.mk (below_step HB.out hb); clear hb))
        go_ret
        exact ⟨rfl, HB.out⟩
      · have e2 : decide (P > 300) = false := decide_eq_false hp
        go_wp2_with (first
         | (go_at_call 11; (with_reducible refine (AI _ IM.out).mono ?_); rintro e w11 ⟨rfl, hb⟩; replace IM := Aside0.mk (IM.out.below hb); replace IR := Aside0.mk (IR.out.below hb); replace HB := Aside0.mk (below_step HB.out hb); clear hb)
         | ((with_reducible refine gate_dst (N := 15) rfl ?_); refine box_event ?hg (N := 15) ?hd (cs := #[.int .i64 0, .int .i64 0, .int .i64 0]) (t := 33) ?hr ?_; (case hd => rfl); (case hg => rfl); (case hr => first | (go_simp; done) | (go_simp; rfl)); intro g15 hg w12 hbox hb; have BK15 := Aside0.mk hbox; have GE15 := Aside0.mk (bG hg HB.out); replace IM := Aside0.mk (IM.out.below hb); replace IR := Aside0.mk (IR.out.below hb); replace HB := Aside0.mk (below_step HB.out hb); clear hg hbox hb)
         | ((with_reducible refine gate_store2 (t := 33) (x := .tmp 15) (y := .tmp 95) rfl ?_); refine ev_row (B := w.heap.size) (w0 := w) rfl 33 (.tmp 15) (.tmp 95) rfl rfl g15 #[.int .i64 c0.f0, .int .i64 c0.f1, .int .i64 c0.f2] ?hx ?hy 33 _ BK15.out (by kernel_rfl) rfl (by simp [Value.oneCell']) HB.out GE15.out ?_; (case hx => first | (go_simp; done) | rfl); (case hy => first | (go_simp; done) | rfl | (go_simp; rfl)); intro w13 hbox hb hk; replace IM := Aside0.mk (IM.out.but33 BK15.out hk); replace IR := Aside0.mk (IR.out.but BK15.out (by decide) (by decide) hk); replace BK15 := Aside0.mk hbox; replace HB := Aside0.mk hb; clear hbox hb hk)
         | (go_at_call 12; (with_reducible refine (AR _ IR.out).mono ?_); rintro e w14 ⟨rfl, hb⟩; replace IM := Aside0.mk (IM.out.below hb); replace IR := Aside0.mk (IR.out.below hb); replace BK15 := cB hb BK15; replace HB := Aside0.mk (below_step HB.out hb); clear hb)
         | ((with_reducible refine gate_dst (N := 17) rfl ?_); refine box_event ?hg (N := 17) ?hd (cs := #[.int .i64 0, .int .i64 0, .int .i64 0]) (t := 33) ?hr ?_; (case hd => rfl); (case hg => rfl); (case hr => first | (go_simp; done) | (go_simp; rfl)); intro g17 hg w15 hbox hb; have BK17 := Aside0.mk hbox; have GE17 := Aside0.mk (bG hg HB.out); replace IM := Aside0.mk (IM.out.below hb); replace IR := Aside0.mk (IR.out.below hb); have N17 := cN hg BK15; replace BK15 := cB hb BK15; replace HB := Aside0.mk (below_step HB.out hb); clear hg hbox hb)
         | ((with_reducible refine gate_store2 (t := 33) (x := .tmp 17) (y := .tmp 102) rfl ?_); refine ev_row (B := w.heap.size) (w0 := w) rfl 33 (.tmp 17) (.tmp 102) rfl rfl g17 #[.int .i64 c0.f0, .int .i64 c0.f1, .int .i64 c0.f2] ?hx ?hy 33 _ BK17.out (by kernel_rfl) rfl (by simp [Value.oneCell']) HB.out GE17.out ?_; (case hx => first | (go_simp; done) | rfl); (case hy => first | (go_simp; done) | rfl | (go_simp; rfl)); intro w16 hbox hb hk; replace IM := Aside0.mk (IM.out.but33 BK17.out hk); replace IR := Aside0.mk (IR.out.but BK17.out (by decide) (by decide) hk); replace BK15 := Aside0.mk ((hk _ N17.out).trans BK15.out); replace BK17 := Aside0.mk hbox; replace HB := Aside0.mk hb; have z15_0 : w16.cell? ⟨g15, 0, none⟩ = some (.int .i64 c0.f0) := (blk_cell BK15.out 0).trans rfl; have z15_1 : w16.cell? ⟨g15, 1, none⟩ = some (.int .i64 c0.f1) := (blk_cell BK15.out 1).trans rfl; have z15_2 : w16.cell? ⟨g15, 2, none⟩ = some (.int .i64 c0.f2) := (blk_cell BK15.out 2).trans rfl; have z17_0 : w16.cell? ⟨g17, 0, none⟩ = some (.int .i64 c0.f0) := (blk_cell BK17.out 0).trans rfl; have z17_1 : w16.cell? ⟨g17, 1, none⟩ = some (.int .i64 c0.f1) := (blk_cell BK17.out 1).trans rfl; have z17_2 : w16.cell? ⟨g17, 2, none⟩ = some (.int .i64 c0.f2) := (blk_cell BK17.out 2).trans rfl; clear hbox hb hk)
         | (go_at_call 13; (with_reducible refine (TI _ IM.out (HP.out.on HB.out)).mono ?_); rintro e w17 ⟨rfl, hb⟩; replace IM := Aside0.mk (IM.out.below hb); replace IR := Aside0.mk (IR.out.below hb); replace HB := Aside0.mk (below_step HB.out hb); clear hb)
         | (go_at_call 14; (with_reducible refine (TR _ IR.out).mono ?_); rintro e w18 ⟨rfl, hb⟩; replace HB := Aside0.mk (below_step HB.out hb); clear hb))
        go_ret
        exact ⟨rfl, HB.out⟩
theorem steps.calls (W H : Int) (A : Option Addr) (c : Nat) (l : List S35) (x y : Int) (w : World) (hP : Pow w) (hr : Kd.C k35 w A l.length l) (hc : l.length ≤ c) (hi : ∀ s ∈ l, I64s s) (hlm : l.length ≤ maxLen) (hW : I64 W) (hH : I64 H) (hx : I64 x) (hy : I64 y) :
    Calls Tryd.prog 3 #[.int .i64 W, .int .i64 H, .slice A l.length c, .int .i64 x, .int .i64 y] w fun e w' => e = .returned (.bool true) ∧ Below w.heap.size w w' := by
  have hlm' : l.length ≤ 9223372036854775807 := by unfold maxLen at hlm; omega
  by_cases h1 : 300 < l.length
  · exact stepsLong.calls W H A c l x y w hP hr hc hi hlm' hx hy h1
  · cases hg : goodB W H with
    | true => exact stepsGood.calls W H A c l x y w hP hr hc hi hlm' hx hy h1 hg
    | false =>
      have hgg := of_decide_eq_false hg
      by_cases q0 : W < 1
      · exact stepsBad0.calls W H A c l x y w hP hr hc hi hlm' hx hy h1 q0
      by_cases q1 : W > 64
      · exact stepsBad1.calls W H A c l x y w hP hr hc hi hlm' hx hy h1 q0 q1
      by_cases q2 : H < 1
      · exact stepsBad2.calls W H A c l x y w hP hr hc hi hlm' hx hy h1 q0 q1 q2
      by_cases q3 : H > 64
      · exact stepsBad3.calls W H A c l x y w hP hr hc hi hlm' hx hy h1 q0 q1 q2 q3
      exact absurd (by omega) hgg
end Go.Proofs.YtibecmeajopmeaaDoor.G
