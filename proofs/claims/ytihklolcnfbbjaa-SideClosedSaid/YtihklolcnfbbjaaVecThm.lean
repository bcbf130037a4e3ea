/- Plain laws of the side and of what Meet comes to: a hit's place and side; what is turned, moved, faster, cut in two; a tetrahedron. No program but the plain form of Meet. -/
import Derived.Test.YtihklolcnfbbjaaVecFun
namespace Go.Proofs.Ytihklolcnfbbjaa.M
open Go.RowKit Go.Proofs.VecMath
set_option linter.unusedVariables false

structure Ok (o d a b c : Vec) : Prop where
  ho : o.in_ 65536
  hd : d.in_ 32768
  nz : ¬ d.zero
  ha : a.in_ 65536
  hb : b.in_ 65536
  hc : c.in_ 65536

theorem ok_iff (o d a b c : Vec) : okB o d a b c = true ↔ Ok o d a b c := by
  unfold okB lineB
  simp only [Bool.and_eq_true, decide_eq_true_eq, Bool.not_eq_true', decide_eq_false_iff_not]
  exact ⟨fun ⟨⟨h1, h2, h3⟩, h4, h5, h6⟩ => ⟨h1, h2, h3, h4, h5, h6⟩, fun ⟨h1, h2, h3, h4, h5, h6⟩ => ⟨⟨h1, h2, h3⟩, h4, h5, h6⟩⟩

/-- Is it met? -/
def Hits (o d a b c : Vec) : Prop := pS o d a b ≠ 0 ∧ pS o d b c = pS o d a b ∧ pS o d c a = pS o d a b

theorem den_sign {o d a b c : Vec} (ok : Ok o d a b c) (h : Hits o d a b c) : 0 < pS o d a b * den d a b c ∧ (pS o d a b = 1 ∨ pS o d a b = -1) := by
  obtain ⟨h0, h1, h2⟩ := h
  have e := WW_sum o d a b c
  rw [pS_sg ok.hd ok.hb ok.hc] at h1
  rw [pS_sg ok.hd ok.hc ok.ha] at h2
  rw [pS_sg ok.hd ok.ha ok.hb] at h0 h1 h2 ⊢
  rcases sg_or (WW o d a b) with h | h | h
  · rw [h] at h1 h2 ⊢
    have := sg_neg.1 h
    have := sg_neg.1 h1
    have := sg_neg.1 h2
    exact ⟨by omega, .inr rfl⟩
  · exact absurd h h0
  · rw [h] at h1 h2 ⊢
    have := sg_pos.1 h
    have := sg_pos.1 h1
    have := sg_pos.1 h2
    exact ⟨by omega, .inl rfl⟩

theorem meet_hit {o d a b c : Vec} (ok : Ok o d a b c) (h : Hits o d a b c) :
    meetS o d a b c = (pS o d a b * num o a b c, pS o d a b * den d a b c, decide (pS o d a b < 0), 0, 0, true, 0) := by
  obtain ⟨hs, hp⟩ := den_sign ok h
  unfold meetS
  rw [if_pos ((ok_iff ..).2 ok), if_pos (show pS o d a b ≠ 0 ∧ pS o d b c = pS o d a b ∧ pS o d c a = pS o d a b from h)]
  rcases hp with e | e
  · rw [e] at hs ⊢
    rw [if_neg (by omega), if_neg (by omega)]
    simp
  · rw [e] at hs ⊢
    rw [if_neg (by omega), if_pos (by omega)]
    simp
theorem meet_miss {o d a b c : Vec} (ok : Ok o d a b c) (h : ¬ Hits o d a b c) : meetS o d a b c = (0, 0, false, 0, 0, false, 0) := by
  unfold meetS
  rw [if_pos ((ok_iff ..).2 ok), if_neg (show ¬ (pS o d a b ≠ 0 ∧ pS o d b c = pS o d a b ∧ pS o d c a = pS o d a b) from h)]
theorem meet_large {o d a b c : Vec} (h : ¬ Ok o d a b c) : meetS o d a b c = (0, 0, false, 0, 0, false, 21) := by
  unfold meetS
  rw [if_neg (fun h' => h ((ok_iff ..).1 h'))]

theorem pS_anti {o d a b : Vec} (hd : d.in_ 32768) (ha : a.in_ 65536) (hb : b.in_ 65536) : pS o d b a = -pS o d a b := by
  rw [pS_sg hd hb ha, pS_sg hd ha hb, WW_anti]
  rcases Int.lt_trichotomy (WW o d a b) 0 with h | h | h
  · rw [sg_neg.2 h, sg_pos.2 (by omega)]
    rfl
  · rw [h]
    rfl
  · rw [sg_pos.2 h, sg_neg.2 (by omega)]
theorem pS_or (o d a b : Vec) : pS o d a b = -1 ∨ pS o d a b = 0 ∨ pS o d a b = 1 := by
  unfold pS lex4
  split
  · split
    · split
      · exact sg_or _
      · exact sg_or _
    · exact sg_or _
  · exact sg_or _

theorem ok_swap {o d a b c : Vec} (h : Ok o d a b c) : Ok o d a c b := ⟨h.ho, h.hd, h.nz, h.ha, h.hc, h.hb⟩
theorem den_swap (d a b c : Vec) : den d a c b = -den d a b c := by
  unfold den NX NY NZ
  grind
theorem num_swap (o a b c : Vec) : num o a c b = -num o a b c := by
  unfold num NX NY NZ
  grind
theorem hits_swap {o d a b c : Vec} (ok : Ok o d a b c) (h : Hits o d a b c) : Hits o d a c b ∧ pS o d a c = -pS o d a b := by
  obtain ⟨h0, h1, h2⟩ := h
  have e1 := pS_anti (o := o) ok.hd ok.hc ok.ha
  have e2 := pS_anti (o := o) ok.hd ok.hb ok.hc
  have e3 := pS_anti (o := o) ok.hd ok.ha ok.hb
  refine ⟨⟨?_, ?_, ?_⟩, ?_⟩ <;> omega

theorem alive_at (k : Nat) : G.relievolaw03_alive.f (k + 20) = some true := by
  induction k with
  | zero => exact alive_eq
  | succ k ih => rw [show k + 1 + 20 = k + 20 + 1 by omega]; exact G.relievolaw03_alive.mono (k + 20) _ ih

/-! ### Moved alike -/
def Vec.add (a t : Vec) : Vec := ⟨a.x + t.x, a.y + t.y, a.z + t.z⟩
theorem pS_moved (o d a b t : Vec) : pS (Vec.add o t) d (Vec.add a t) (Vec.add b t) = pS o d a b := by
  have h1 : V0 (Vec.add o t) d (Vec.add a t) (Vec.add b t) = V0 o d a b := by unfold V0 Vec.add; grind
  have h2 : Cx d (Vec.add a t) (Vec.add b t) = Cx d a b := by unfold Cx Vec.add; grind
  have h3 : Cy d (Vec.add a t) (Vec.add b t) = Cy d a b := by unfold Cy Vec.add; grind
  have h4 : Cz d (Vec.add a t) (Vec.add b t) = Cz d a b := by unfold Cz Vec.add; grind
  unfold pS
  rw [h1, h2, h3, h4]
theorem den_moved (d a b c t : Vec) : den d (Vec.add a t) (Vec.add b t) (Vec.add c t) = den d a b c := by
  unfold den NX NY NZ Vec.add
  grind
theorem num_moved (o a b c t : Vec) : num (Vec.add o t) (Vec.add a t) (Vec.add b t) (Vec.add c t) = num o a b c := by
  unfold num NX NY NZ Vec.add
  grind
theorem meet_moved {o d a b c t : Vec} (ok : Ok o d a b c) (ok' : Ok (Vec.add o t) d (Vec.add a t) (Vec.add b t) (Vec.add c t)) : meetS (Vec.add o t) d (Vec.add a t) (Vec.add b t) (Vec.add c t) = meetS o d a b c := by
  by_cases h : Hits o d a b c
  · have h' : Hits (Vec.add o t) d (Vec.add a t) (Vec.add b t) (Vec.add c t) := by
      unfold Hits at *
      rw [pS_moved, pS_moved, pS_moved]
      exact h
    rw [meet_hit ok h, meet_hit ok' h', pS_moved, num_moved, den_moved]
  · have h' : ¬ Hits (Vec.add o t) d (Vec.add a t) (Vec.add b t) (Vec.add c t) := by
      unfold Hits at *
      rw [pS_moved, pS_moved, pS_moved]
      exact h
    rw [meet_miss ok h, meet_miss ok' h']
theorem hits_iff {o d a b c : Vec} (ok : Ok o d a b c) : Hits o d a b c ↔ (0 < WW o d a b ∧ 0 < WW o d b c ∧ 0 < WW o d c a) ∨ (WW o d a b < 0 ∧ WW o d b c < 0 ∧ WW o d c a < 0) := by
  unfold Hits
  rw [pS_sg ok.hd ok.hb ok.hc, pS_sg ok.hd ok.hc ok.ha, pS_sg ok.hd ok.ha ok.hb]
  rcases sg_or (WW o d a b) with h | h | h
  · rw [h]
    have := sg_neg.1 h
    rw [sg_neg, sg_neg]
    omega
  · rw [h]
    have := sg_zero.1 h
    omega
  · rw [h]
    have := sg_pos.1 h
    rw [sg_pos, sg_pos]
    omega
/-- Where the number is 0, both ends are one point to the line. -/
theorem WW_same {o d a m : Vec} (hd : d.in_ 32768) (ha : a.in_ 65536) (hm : m.in_ 65536) (h : WW o d a m = 0) (b : Vec) : WW o d a b = WW o d m b := by
  obtain ⟨h1, h2, h3⟩ := C_in hd ha hm
  unfold WW at h
  have v : V0 o d a m = 0 := by omega
  have x : Cx d a m = 0 := by omega
  have y : Cy d a m = 0 := by omega
  have z : Cz d a m = 0 := by omega
  have e : WW o d a b - WW o d m b = -1329227995784915872903807060280344576 * ((b.x - o.x) * Cx d a m + (b.y - o.y) * Cy d a m + (b.z - o.z) * Cz d a m) + 1208925819614629174706176 * Cx d a m + 1099511627776 * Cy d a m + Cz d a m := by
    unfold WW V0 Cx Cy Cz
    grind
  rw [x, y, z] at e
  omega
/-! ### Four points: three products come to nothing -/
def om (d u v : Vec) : Int := d.x * (u.y * v.z - u.z * v.y) + d.y * (u.z * v.x - u.x * v.z) + d.z * (u.x * v.y - u.y * v.x)
def UU (o a : Vec) : Vec := ⟨1329227995784915872903807060280344576 * (a.x - o.x) - 1208925819614629174706176, 1329227995784915872903807060280344576 * (a.y - o.y) - 1099511627776, 1329227995784915872903807060280344576 * (a.z - o.z) - 1⟩
theorem om_WW (o d a b : Vec) : om d (UU o a) (UU o b) = 1329227995784915872903807060280344576 * WW o d a b := by
  unfold om UU WW V0 Cx Cy Cz
  grind
theorem om_pluecker (d a b c p : Vec) : om d b c * om d a p + om d c a * om d b p + om d a b * om d c p = 0 := by
  unfold om
  grind
theorem pluecker (o d a b c p : Vec) : WW o d b c * WW o d a p + WW o d c a * WW o d b p + WW o d a b * WW o d c p = 0 := by
  have h := om_pluecker d (UU o a) (UU o b) (UU o c) (UU o p)
  rw [om_WW, om_WW, om_WW, om_WW, om_WW, om_WW] at h
  generalize WW o d b c = x1 at *
  generalize WW o d a p = x2 at *
  generalize WW o d c a = x3 at *
  generalize WW o d b p = x4 at *
  generalize WW o d a b = x5 at *
  generalize WW o d c p = x6 at *
  have e : (1329227995784915872903807060280344576 * 1329227995784915872903807060280344576 : Int) * (x1 * x2 + x3 * x4 + x5 * x6) = 0 := by grind
  rcases Int.mul_eq_zero.1 e with h' | h'
  · exact absurd h' (by decide)
  · exact h'
theorem sg_mul (x y : Int) : sg (x * y) = sg x * sg y := by
  rcases Int.lt_trichotomy x 0 with hx | hx | hx <;> rcases Int.lt_trichotomy y 0 with hy | hy | hy
  · rw [sg_neg.2 hx, sg_neg.2 hy, sg_pos.2 (Int.mul_pos_of_neg_of_neg hx hy)]; rfl
  · rw [hy, Int.mul_zero]; unfold sg; simp
  · rw [sg_neg.2 hx, sg_pos.2 hy, sg_neg.2 (Int.mul_neg_of_neg_of_pos hx hy)]; rfl
  · rw [hx, Int.zero_mul]; unfold sg; simp
  · rw [hx, Int.zero_mul]; unfold sg; simp
  · rw [hx, Int.zero_mul]; unfold sg; simp
  · rw [sg_pos.2 hx, sg_neg.2 hy, sg_neg.2 (Int.mul_neg_of_pos_of_neg hx hy)]; rfl
  · rw [hy, Int.mul_zero]; unfold sg; simp
  · rw [sg_pos.2 hx, sg_pos.2 hy, sg_pos.2 (Int.mul_pos hx hy)]; rfl
/-- What a face counts. -/
def FF (x y z : Int) : Int := if x ≠ 0 ∧ y = x ∧ z = x then -x else 0
def CC (ab bc ca ap bp cp : Int) : Bool :=
  (!(decide (0 ≤ bc * ap) && decide (0 ≤ ca * bp) && decide (0 ≤ ab * cp) && (decide (0 < bc * ap) || decide (0 < ca * bp) || decide (0 < ab * cp)))) &&
  (!(decide (bc * ap ≤ 0) && decide (ca * bp ≤ 0) && decide (ab * cp ≤ 0) && (decide (bc * ap < 0) || decide (ca * bp < 0) || decide (ab * cp < 0)))) &&
  (!(ab == 0) || (decide (-ca = bc) && decide (ap = bp))) && (!(bc == 0) || (decide (-ab = ca) && decide (bp = cp))) && (!(ca == 0) || (decide (-bc = ab) && decide (cp = ap))) &&
  (!(ap == 0) || (decide (ab = -bp) && decide (-ca = -cp))) && (!(bp == 0) || (decide (bc = -cp) && decide (-ab = -ap))) && (!(cp == 0) || (decide (ca = -ap) && decide (-bc = -bp)))
theorem comb : ∀ ab ∈ ([-1, 0, 1] : List Int), ∀ bc ∈ ([-1, 0, 1] : List Int), ∀ ca ∈ ([-1, 0, 1] : List Int), ∀ ap ∈ ([-1, 0, 1] : List Int), ∀ bp ∈ ([-1, 0, 1] : List Int), ∀ cp ∈ ([-1, 0, 1] : List Int),
    CC ab bc ca ap bp cp = true → FF ab bc ca + FF (-ca) cp (-ap) + FF ap (-bp) (-ab) + FF bp (-cp) (-bc) = 0 := by decide +kernel
theorem errno_zero {o d a b c : Vec} : (meetS o d a b c).2.2.2.2.2.2 = 0 ↔ Ok o d a b c := by
  constructor
  · intro h
    by_cases ok : Ok o d a b c
    · exact ok
    · rw [meet_large ok] at h
      exact absurd h (by decide)
  · intro ok
    by_cases h : Hits o d a b c
    · rw [meet_hit ok h]
    · rw [meet_miss ok h]
end Go.Proofs.Ytihklolcnfbbjaa.M
