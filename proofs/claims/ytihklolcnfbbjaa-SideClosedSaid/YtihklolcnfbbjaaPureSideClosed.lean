/- Of a tetrahedron's four triangles a line meets as many from the front as from the back, through edges and corners, too: for all ints. -/
import Derived.Test.YtihklolcnfbbjaaClosed
import Derived.Test.YtihklolcnfbbjaaVecThm
namespace Go.Proofs.Ytihklolcnfbbjaa.Pure
open Go.RowKit Go.Proofs.VecMath Go.Proofs.Ytihklolcnfbbjaa.M
set_option linter.unusedVariables false

/-- What one answer of Meet counts. -/
def cc (ok front : Bool) : Int := if ok then (if front then 1 else -1) else 0

theorem stepN (n : Int) (hn : -10 ≤ n ∧ n ≤ 10) (ok front : Bool) : (if ok = true then (if front = true then wrap64 (n + 1) else wrap64 (n - 1)) else n) = n + cc ok front := by
  have e1 : wrap64 (n + 1) = n + 1 := w64 (by omega)
  have e2 : wrap64 (n - 1) = n + -1 := by rw [w64 (by omega)]; omega
  have e3 : n + 0 = n := by omega
  rw [e1, e2]
  cases ok <;> cases front
  · exact e3.symm
  · exact e3.symm
  · rfl
  · rfl
theorem loop_step (k r i : Nat) (n : Int) (hn : -10 ≤ n ∧ n ≤ 10) (o d A B C : Vec) (L : List Int) (e : L.getD (i * 9) 0 = A.x ∧ L.getD (i * 9 + 1) 0 = A.y ∧ L.getD (i * 9 + 2) 0 = A.z ∧ L.getD (i * 9 + 3) 0 = B.x ∧ L.getD (i * 9 + 4) 0 = B.y ∧ L.getD (i * 9 + 5) 0 = B.z ∧ L.getD (i * 9 + 6) 0 = C.x ∧ L.getD (i * 9 + 7) 0 = C.y ∧ L.getD (i * 9 + 8) 0 = C.z) :
    G.closedL (k + 20) o.x o.y o.z d.x d.y d.z L (r + 1) i n = if (meetS o d A B C).2.2.2.2.2.2 = 0 then G.closedL (k + 20) o.x o.y o.z d.x d.y d.z L r (i + 1) (n + cc (meetS o d A B C).2.2.2.2.2.1 (meetS o d A B C).2.2.1) else some ((meetS o d A B C).2.2.2.2.2.2 == 21) := by
  obtain ⟨e0, e1, e2, e3, e4, e5, e6, e7, e8⟩ := e
  rw [G.closedL, e0, e1, e2, e3, e4, e5, e6, e7, e8, meet_eq k o d A B C, Option.bind_some, stepN n hn]

theorem count {o d a b c : Vec} (ok : Ok o d a b c) : cc (meetS o d a b c).2.2.2.2.2.1 (meetS o d a b c).2.2.1 = FF (pS o d a b) (pS o d b c) (pS o d c a) := by
  by_cases h : Hits o d a b c
  · obtain ⟨_, hp⟩ := den_sign ok h
    rw [meet_hit ok h]
    unfold FF
    rw [if_pos (show pS o d a b ≠ 0 ∧ pS o d b c = pS o d a b ∧ pS o d c a = pS o d a b from h)]
    rcases hp with hp | hp <;> rw [hp] <;> rfl
  · rw [meet_miss ok h]
    unfold FF
    rw [if_neg (show ¬ (pS o d a b ≠ 0 ∧ pS o d b c = pS o d a b ∧ pS o d c a = pS o d a b) from h)]
    rfl
theorem cc_in (ok front : Bool) : -1 ≤ cc ok front ∧ cc ok front ≤ 1 := by cases ok <;> cases front <;> decide
theorem mem3 (n : Int) : sg n ∈ ([-1, 0, 1] : List Int) := by
  rcases sg_or n with h | h | h <;> rw [h] <;> decide

theorem sg_anti (n : Int) : sg (-n) = -sg n := by
  rcases Int.lt_trichotomy n 0 with h | h | h
  · rw [sg_neg.2 h, sg_pos.2 (by omega)]; rfl
  · rw [h]; rfl
  · rw [sg_pos.2 h, sg_neg.2 (by omega)]

theorem cc_pl {p q r : Int} (h : p + q + r = 0) :
    (!(decide (0 ≤ sg p) && decide (0 ≤ sg q) && decide (0 ≤ sg r) && (decide (0 < sg p) || decide (0 < sg q) || decide (0 < sg r)))) = true ∧
    (!(decide (sg p ≤ 0) && decide (sg q ≤ 0) && decide (sg r ≤ 0) && (decide (sg p < 0) || decide (sg q < 0) || decide (sg r < 0)))) = true := by
  rcases sg_or p with a | a | a <;> rcases sg_or q with b | b | b <;> rcases sg_or r with c | c | c <;> rw [a, b, c] <;> first | exact ⟨rfl, rfl⟩ | (exfalso; simp only [sg_neg, sg_pos, sg_zero] at a b c; omega)
theorem cc_zero {x : Int} {a b c d : Int} (h : x = 0 → a = b ∧ c = d) : (!(sg x == 0) || (decide (a = b) && decide (c = d))) = true := by
  by_cases hx : x = 0
  · obtain ⟨h1, h2⟩ := h hx
    rw [h1, h2]
    simp
  · have : sg x ≠ 0 := fun h' => hx (sg_zero.1 h')
    simp [this]
theorem cc_true {x y z u v t : Int} (pl : y * u + z * v + x * t = 0) (z1 : x = 0 → -z = y ∧ u = v) (z2 : y = 0 → -x = z ∧ v = t) (z3 : z = 0 → -y = x ∧ t = u) (z4 : u = 0 → x = -v ∧ -z = -t) (z5 : v = 0 → y = -t ∧ -x = -u) (z6 : t = 0 → z = -u ∧ -y = -v) :
    CC (sg x) (sg y) (sg z) (sg u) (sg v) (sg t) = true := by
  obtain ⟨c1, c2⟩ := cc_pl pl
  unfold CC
  rw [← sg_mul, ← sg_mul, ← sg_mul, c1, c2]
  rw [cc_zero (x := x) (fun h => by obtain ⟨e1, e2⟩ := z1 h; exact ⟨by rw [← sg_anti, e1], by rw [e2]⟩)]
  rw [cc_zero (x := y) (fun h => by obtain ⟨e1, e2⟩ := z2 h; exact ⟨by rw [← sg_anti, e1], by rw [e2]⟩)]
  rw [cc_zero (x := z) (fun h => by obtain ⟨e1, e2⟩ := z3 h; exact ⟨by rw [← sg_anti, e1], by rw [e2]⟩)]
  rw [cc_zero (x := u) (fun h => by obtain ⟨e1, e2⟩ := z4 h; exact ⟨by rw [← sg_anti, ← e1], by rw [← sg_anti, e2, sg_anti]⟩)]
  rw [cc_zero (x := v) (fun h => by obtain ⟨e1, e2⟩ := z5 h; exact ⟨by rw [← sg_anti, ← e1], by rw [← sg_anti, e2, sg_anti]⟩)]
  rw [cc_zero (x := t) (fun h => by obtain ⟨e1, e2⟩ := z6 h; exact ⟨by rw [← sg_anti, ← e1], by rw [← sg_anti, e2, sg_anti]⟩)]
  rfl

theorem closed {o d a b c p : Vec} (ok : Ok o d a b c) (hp : p.in_ 65536) :
    FF (pS o d a b) (pS o d b c) (pS o d c a) + FF (pS o d a c) (pS o d c p) (pS o d p a) + FF (pS o d a p) (pS o d p b) (pS o d b a) + FF (pS o d b p) (pS o d p c) (pS o d c b) = 0 := by
  rw [pS_anti ok.hd ok.hc ok.ha, pS_anti ok.hd ok.ha hp, pS_anti ok.hd ok.hb hp, pS_anti ok.hd ok.ha ok.hb, pS_anti ok.hd ok.hc hp, pS_anti ok.hd ok.hb ok.hc]
  rw [pS_sg ok.hd ok.ha ok.hb, pS_sg ok.hd ok.hb ok.hc, pS_sg ok.hd ok.hc ok.ha, pS_sg ok.hd ok.ha hp, pS_sg ok.hd ok.hb hp, pS_sg ok.hd ok.hc hp]
  have z1 : WW o d a b = 0 → WW o d a c = WW o d b c ∧ WW o d a p = WW o d b p := fun h => ⟨WW_same ok.hd ok.ha ok.hb h c, WW_same ok.hd ok.ha ok.hb h p⟩
  have z2 : WW o d b c = 0 → WW o d b a = WW o d c a ∧ WW o d b p = WW o d c p := fun h => ⟨WW_same ok.hd ok.hb ok.hc h a, WW_same ok.hd ok.hb ok.hc h p⟩
  have z3 : WW o d c a = 0 → WW o d c b = WW o d a b ∧ WW o d c p = WW o d a p := fun h => ⟨WW_same ok.hd ok.hc ok.ha h b, WW_same ok.hd ok.hc ok.ha h p⟩
  have z4 : WW o d a p = 0 → WW o d a b = WW o d p b ∧ WW o d a c = WW o d p c := fun h => ⟨WW_same ok.hd ok.ha hp h b, WW_same ok.hd ok.ha hp h c⟩
  have z5 : WW o d b p = 0 → WW o d b c = WW o d p c ∧ WW o d b a = WW o d p a := fun h => ⟨WW_same ok.hd ok.hb hp h c, WW_same ok.hd ok.hb hp h a⟩
  have z6 : WW o d c p = 0 → WW o d c a = WW o d p a ∧ WW o d c b = WW o d p b := fun h => ⟨WW_same ok.hd ok.hc hp h a, WW_same ok.hd ok.hc hp h b⟩
  rw [WW_anti o d c a] at z1 z4
  rw [WW_anti o d a b] at z2 z5
  rw [WW_anti o d b c] at z3 z6
  rw [WW_anti o d b p, WW_anti o d c p] at z4
  rw [WW_anti o d c p, WW_anti o d a p] at z5
  rw [WW_anti o d a p, WW_anti o d b p] at z6
  exact comb _ (mem3 _) _ (mem3 _) _ (mem3 _) _ (mem3 _) _ (mem3 _) _ (mem3 _) (cc_true (pluecker o d a b c p) z1 z2 z3 z4 z5 z6)

theorem SideClosed (a0_0 a0_1 a0_2 a1_0 a1_1 a1_2 a2_0 a2_1 a2_2 a3_0 a3_1 a3_2 a4_0 a4_1 a4_2 a5_0 a5_1 a5_2 : Int) (_b0_0 : -9223372036854775808 ≤ a0_0 ∧ a0_0 ≤ 9223372036854775807) (_b0_1 : -9223372036854775808 ≤ a0_1 ∧ a0_1 ≤ 9223372036854775807) (_b0_2 : -9223372036854775808 ≤ a0_2 ∧ a0_2 ≤ 9223372036854775807) (_b1_0 : -9223372036854775808 ≤ a1_0 ∧ a1_0 ≤ 9223372036854775807) (_b1_1 : -9223372036854775808 ≤ a1_1 ∧ a1_1 ≤ 9223372036854775807) (_b1_2 : -9223372036854775808 ≤ a1_2 ∧ a1_2 ≤ 9223372036854775807) (_b2_0 : -9223372036854775808 ≤ a2_0 ∧ a2_0 ≤ 9223372036854775807) (_b2_1 : -9223372036854775808 ≤ a2_1 ∧ a2_1 ≤ 9223372036854775807) (_b2_2 : -9223372036854775808 ≤ a2_2 ∧ a2_2 ≤ 9223372036854775807) (_b3_0 : -9223372036854775808 ≤ a3_0 ∧ a3_0 ≤ 9223372036854775807) (_b3_1 : -9223372036854775808 ≤ a3_1 ∧ a3_1 ≤ 9223372036854775807) (_b3_2 : -9223372036854775808 ≤ a3_2 ∧ a3_2 ≤ 9223372036854775807) (_b4_0 : -9223372036854775808 ≤ a4_0 ∧ a4_0 ≤ 9223372036854775807) (_b4_1 : -9223372036854775808 ≤ a4_1 ∧ a4_1 ≤ 9223372036854775807) (_b4_2 : -9223372036854775808 ≤ a4_2 ∧ a4_2 ≤ 9223372036854775807) (_b5_0 : -9223372036854775808 ≤ a5_0 ∧ a5_0 ≤ 9223372036854775807) (_b5_1 : -9223372036854775808 ≤ a5_1 ∧ a5_1 ≤ 9223372036854775807) (_b5_2 : -9223372036854775808 ≤ a5_2 ∧ a5_2 ≤ 9223372036854775807) :
    ∃ k, G.relievolaw03_SideClosed.f k a0_0 a0_1 a0_2 a1_0 a1_1 a1_2 a2_0 a2_1 a2_2 a3_0 a3_1 a3_2 a4_0 a4_1 a4_2 a5_0 a5_1 a5_2 = some true := by
  refine ⟨45, ?_⟩
  obtain ⟨o, ho⟩ : ∃ o : Vec, o = ⟨a0_0, a0_1, a0_2⟩ := ⟨_, rfl⟩
  obtain ⟨d, hd⟩ : ∃ o : Vec, o = ⟨a1_0, a1_1, a1_2⟩ := ⟨_, rfl⟩
  obtain ⟨a, ha⟩ : ∃ o : Vec, o = ⟨a2_0, a2_1, a2_2⟩ := ⟨_, rfl⟩
  obtain ⟨b, hb⟩ : ∃ o : Vec, o = ⟨a3_0, a3_1, a3_2⟩ := ⟨_, rfl⟩
  obtain ⟨c, hc⟩ : ∃ o : Vec, o = ⟨a4_0, a4_1, a4_2⟩ := ⟨_, rfl⟩
  obtain ⟨p, hp⟩ : ∃ o : Vec, o = ⟨a5_0, a5_1, a5_2⟩ := ⟨_, rfl⟩
  have go : a0_0 = o.x ∧ a0_1 = o.y ∧ a0_2 = o.z ∧ a1_0 = d.x ∧ a1_1 = d.y ∧ a1_2 = d.z ∧ a2_0 = a.x ∧ a2_1 = a.y ∧ a2_2 = a.z ∧ a3_0 = b.x ∧ a3_1 = b.y ∧ a3_2 = b.z ∧ a4_0 = c.x ∧ a4_1 = c.y ∧ a4_2 = c.z ∧ a5_0 = p.x ∧ a5_1 = p.y ∧ a5_2 = p.z := by
    rw [ho, hd, ha, hb, hc, hp]
    simp only [and_self]
  obtain ⟨g1, g2, g3, g4, g5, g6, g7, g8, g9, g10, g11, g12, g13, g14, g15, g16, g17, g18⟩ := go
  unfold G.relievolaw03_SideClosed.f
  rw [g1, g2, g3, g4, g5, g6, g7, g8, g9, g10, g11, g12, g13, g14, g15, g16, g17, g18, alive_at 25, Option.bind_some, if_pos rfl]
  rw [loop_step 25 3 0 0 (by decide) o d a b c _ ⟨rfl, rfl, rfl, rfl, rfl, rfl, rfl, rfl, rfl⟩]
  by_cases ok : Ok o d a b c
  case neg => rw [meet_large ok]; rfl
  have i1 := cc_in (meetS o d a b c).2.2.2.2.2.1 (meetS o d a b c).2.2.1
  rw [if_pos (errno_zero.2 ok), loop_step 25 2 1 _ (by omega) o d a c p _ ⟨rfl, rfl, rfl, rfl, rfl, rfl, rfl, rfl, rfl⟩]
  by_cases hp' : p.in_ 65536
  case neg => rw [meet_large (fun h : Ok o d a c p => hp' h.hc)]; rfl
  have ok2 : Ok o d a c p := ⟨ok.ho, ok.hd, ok.nz, ok.ha, ok.hc, hp'⟩
  have ok3 : Ok o d a p b := ⟨ok.ho, ok.hd, ok.nz, ok.ha, hp', ok.hb⟩
  have ok4 : Ok o d b p c := ⟨ok.ho, ok.hd, ok.nz, ok.hb, hp', ok.hc⟩
  have i2 := cc_in (meetS o d a c p).2.2.2.2.2.1 (meetS o d a c p).2.2.1
  have i3 := cc_in (meetS o d a p b).2.2.2.2.2.1 (meetS o d a p b).2.2.1
  rw [if_pos (errno_zero.2 ok2), loop_step 25 1 2 _ (by omega) o d a p b _ ⟨rfl, rfl, rfl, rfl, rfl, rfl, rfl, rfl, rfl⟩]
  rw [if_pos (errno_zero.2 ok3), loop_step 25 0 3 _ (by omega) o d b p c _ ⟨rfl, rfl, rfl, rfl, rfl, rfl, rfl, rfl, rfl⟩]
  rw [if_pos (errno_zero.2 ok4), G.closedL, count ok, count ok2, count ok3, count ok4, show ∀ x : Int, 0 + x = x from Int.zero_add, closed ok hp']
  rfl
end Go.Proofs.Ytihklolcnfbbjaa.Pure
