/- What the Go text of slab.Range comes to, in plain numbers. -/
import Derived.Test.YtihklolcnfbbjaaGx53
import Derived.Test.YtihklolcnfbbjaaWideFun
namespace Go.Proofs.Ytihklolcnfbbjaa.M
open Go.RowKit Go.Proofs.VecMath Go.Proofs.YtihklolcnfbbjaaW.PrintWords
set_option linter.unusedVariables false

def Fr.lt (p q : Fr) : Prop := p.n * q.d < q.n * p.d
instance (p q : Fr) : Decidable (p.lt q) := by unfold Fr.lt; infer_instance
def Fr.ok (p : Fr) : Prop := p.right ∧ p.b64

theorem less_eq (k : Nat) (p q : Fr) (hp : p.ok) (hq : q.ok) : G.slab_less.f (k + 4) p.n p.d q.n q.d = some (decide (p.lt q)) := by
  unfold G.slab_less.f
  rw [order_eq k p q hp.2 hq.2 hp.1 hq.1, Option.bind_some]
  have e : (sg (p.n * q.d - q.n * p.d) < 0) ↔ p.lt q := by
    unfold Fr.lt sg
    repeat' split
    all_goals omega
  simp only [e]

def zeroF : Fr := ⟨0, 1⟩
def infF : Fr := ⟨1, 0⟩
def spanP (f s l h : Int) : Option (Fr × Fr) :=
  if l > h ∨ (s = 0 ∧ (f < l ∨ f > h)) then none else if s = 0 then some (zeroF, infF) else some (⟨l - f, s⟩, ⟨h - f, s⟩)
def spanO (f s l h : Int) : Option (Fr × Fr) := if s < 0 then spanP (-f) (-s) (-h) (-l) else spanP f s l h
def pack : Option (Fr × Fr) → Int × Int × Int × Int × Bool
  | none => (0, 0, 0, 0, false)
  | some (p, q) => (p.n, p.d, q.n, q.d, true)

theorem spanP_eq (k : Nat) (f s l h : Int) (hf : -131072 ≤ f ∧ f ≤ 131072) (hl : -131072 ≤ l ∧ l ≤ 131072) (hh : -131072 ≤ h ∧ h ≤ 131072) :
    G.slab_part_span.j0 (k + 2) f s l h = some (pack (spanP f s l h)) := by
  have e1 : wrap64 (l - f) = l - f := w64 (by omega)
  have e2 : wrap64 (h - f) = h - f := w64 (by omega)
  rw [G.slab_part_span.j0]
  unfold spanP
  by_cases h1 : l > h
  · rw [if_pos h1, if_pos (Or.inl h1), G.slab_part_span.j1, if_pos rfl]
    rfl
  · rw [if_neg h1]
    by_cases h2 : s = 0
    · rw [if_pos h2]
      by_cases h3 : f < l
      · rw [if_pos h3, if_pos (Or.inr ⟨h2, Or.inl h3⟩), G.slab_part_span.j1, if_pos rfl]
        rfl
      · rw [if_neg h3, G.slab_part_span.j1]
        by_cases h4 : f > h
        · rw [if_pos (decide_eq_true h4), if_pos (Or.inr ⟨h2, Or.inr h4⟩)]
          rfl
        · rw [if_neg (by rw [decide_eq_false h4]; decide), if_pos h2, if_neg (by omega), if_pos h2]
          rfl
    · rw [if_neg h2, if_neg (by omega), G.slab_part_span.j1, if_neg (by decide), if_neg h2, if_neg h2, e1, e2]
      rfl

theorem span_eq (k : Nat) (f s l h : Int) (hf : -131072 ≤ f ∧ f ≤ 131072) (hs : -131072 ≤ s ∧ s ≤ 131072) (hl : -131072 ≤ l ∧ l ≤ 131072) (hh : -131072 ≤ h ∧ h ≤ 131072) :
    G.slab_part_span.f (k + 2) f s l h = some (pack (spanO f s l h)) := by
  unfold G.slab_part_span.f spanO
  by_cases h1 : s < 0
  · rw [if_pos h1, if_pos h1, w64 (by omega), w64 (by omega), w64 (by omega), w64 (by omega), spanP_eq _ _ _ _ _ (by omega) (by omega) (by omega)]
  · rw [if_neg h1, if_neg h1, spanP_eq _ _ _ _ _ (by omega) (by omega) (by omega)]

/-- What a span can be. -/
theorem span_cases (f s l h : Int) : spanO f s l h = none ∨ (s = 0 ∧ spanO f s l h = some (zeroF, infF) ∧ l ≤ f ∧ f ≤ h) ∨ (0 < s ∧ l ≤ h ∧ spanO f s l h = some (⟨l - f, s⟩, ⟨h - f, s⟩)) ∨ (s < 0 ∧ l ≤ h ∧ spanO f s l h = some (⟨f - h, -s⟩, ⟨f - l, -s⟩)) := by
  unfold spanO spanP
  by_cases h1 : s < 0
  · rw [if_pos h1]
    by_cases h2 : l > h
    · rw [if_pos (Or.inl (by omega))]
      exact Or.inl rfl
    · rw [if_neg (by omega), if_neg (by omega)]
      refine Or.inr (Or.inr (Or.inr ⟨h1, by omega, ?_⟩))
      rw [show -h - -f = f - h by omega, show -l - -f = f - l by omega]
  · rw [if_neg h1]
    by_cases h2 : l > h ∨ (s = 0 ∧ (f < l ∨ f > h))
    · rw [if_pos h2]
      exact Or.inl rfl
    · rw [if_neg h2]
      by_cases h3 : s = 0
      · rw [if_pos h3]
        exact Or.inr (Or.inl ⟨h3, rfl, by omega, by omega⟩)
      · rw [if_neg h3]
        exact Or.inr (Or.inr (Or.inl ⟨by omega, by omega, rfl⟩))

/-- Small fractions. -/
def Fr.sm (p : Fr) : Prop := p.right ∧ -262144 ≤ p.n ∧ p.n ≤ 262144 ∧ 0 ≤ p.d ∧ p.d ≤ 262144
theorem Fr.sm.ok {p : Fr} (h : p.sm) : p.ok := ⟨h.1, by obtain ⟨_, _, _, _, _⟩ := h; unfold Fr.b64 i64b; omega⟩
theorem zero_sm : zeroF.sm := by unfold zeroF Fr.sm Fr.right; decide
theorem inf_sm : infF.sm := by unfold infF Fr.sm Fr.right; decide
theorem span_sm {f s l h : Int} (hf : -65536 ≤ f ∧ f ≤ 65536) (hs : -32768 ≤ s ∧ s ≤ 32768) (hl : -131072 ≤ l ∧ l ≤ 131072) (hh : -131072 ≤ h ∧ h ≤ 131072) {p q : Fr} (e : spanO f s l h = some (p, q)) : p.sm ∧ q.sm := by
  rcases span_cases f s l h with c | ⟨_, c, _⟩ | ⟨_, _, c⟩ | ⟨_, _, c⟩
  · rw [c] at e
    cases e
  all_goals
    rw [c] at e
    simp only [Option.some.injEq, Prod.mk.injEq] at e
    obtain ⟨rfl, rfl⟩ := e
  · exact ⟨zero_sm, inf_sm⟩
  · unfold Fr.sm Fr.right
    dsimp only
    omega
  · unfold Fr.sm Fr.right
    dsimp only
    omega

def mxF (a b : Fr) : Fr := if a.lt b then b else a
def mnF (a b : Fr) : Fr := if b.lt a then b else a
theorem mx_sm {a b : Fr} (ha : a.sm) (hb : b.sm) : (mxF a b).sm := by unfold mxF; split <;> assumption
theorem mn_sm {a b : Fr} (ha : a.sm) (hb : b.sm) : (mnF a b).sm := by unfold mnF; split <;> assumption

/-- Where three spans are at once. -/
def cut3 (s1 s2 s3 : Option (Fr × Fr)) : Option (Fr × Fr) :=
  match s1 with
  | none => none
  | some (p1, q1) => match s2 with
    | none => none
    | some (p2, q2) => match s3 with
      | none => none
      | some (p3, q3) => if (mnF (mnF (mnF infF q1) q2) q3).lt (mxF (mxF (mxF zeroF p1) p2) p3) then none else some (mxF (mxF (mxF zeroF p1) p2) p3, mnF (mnF (mnF infF q1) q2) q3)
def packE : Option (Fr × Fr) → Int × Int × Int × Int × Bool × Int
  | none => (0, 0, 0, 0, false, 0)
  | some (p, q) => (p.n, p.d, q.n, q.d, true, 0)

theorem j3_eq (k : Nat) (p q : Fr) (hp : p.sm) (hq : q.sm) : G.slab_Range.j3 (k + 5) p.n p.d q.n q.d = some (packE (if q.lt p then none else some (p, q))) := by
  rw [G.slab_Range.j3, less_eq _ _ _ hq.ok hp.ok, Option.bind_some]
  by_cases h : q.lt p
  · rw [if_pos (decide_eq_true h), if_pos h]
    rfl
  · rw [if_neg (by rw [decide_eq_false h]; decide), if_neg h]
    rfl

theorem fold_eq {α : Type} (k : Nat) (p q u v : Fr) (hp : p.sm) (hq : q.sm) (hu : u.sm) (hv : v.sm) (F : Int → Int → Int → Int → Option α) :
    ((G.slab_less.f (k + 4) p.n p.d u.n u.d).bind fun t => if t = true then ((G.slab_less.f (k + 4) v.n v.d q.n q.d).bind fun t' => if t' = true then F u.n u.d v.n v.d else F u.n u.d q.n q.d)
      else ((G.slab_less.f (k + 4) v.n v.d q.n q.d).bind fun t' => if t' = true then F p.n p.d v.n v.d else F p.n p.d q.n q.d)) = F (mxF p u).n (mxF p u).d (mnF q v).n (mnF q v).d := by
  rw [less_eq _ _ _ hp.ok hu.ok, less_eq _ _ _ hv.ok hq.ok]
  simp only [Option.bind_some, decide_eq_true_eq]
  unfold mxF mnF
  by_cases h1 : p.lt u
  · rw [if_pos h1, if_pos h1]
    by_cases h2 : v.lt q
    · rw [if_pos h2, if_pos h2]
    · rw [if_neg h2, if_neg h2]
  · rw [if_neg h1, if_neg h1]
    by_cases h2 : v.lt q
    · rw [if_pos h2, if_pos h2]
    · rw [if_neg h2, if_neg h2]

def bx (o d l h : Vec) : Prop := o.in_ 65536 ∧ d.in_ 32768 ∧ l.in_ 131072 ∧ h.in_ 131072

theorem j2_eq (k : Nat) (p q : Fr) (hp : p.sm) (hq : q.sm) (a b c d e f g h : Int) (o s l m : Int) (ho : -65536 ≤ o ∧ o ≤ 65536) (hs : -32768 ≤ s ∧ s ≤ 32768) (hl : -131072 ≤ l ∧ l ≤ 131072) (hm : -131072 ≤ m ∧ m ≤ 131072) :
    G.slab_Range.j2 (k + 6) p.n p.d q.n q.d a b c d e f g h o s l m = some (packE (match spanO o s l m with
      | none => none
      | some (p3, q3) => if (mnF q q3).lt (mxF p p3) then none else some (mxF p p3, mnF q q3))) := by
  rw [G.slab_Range.j2, span_eq _ _ _ _ _ (by omega) (by omega) hl hm, Option.bind_some]
  rcases e : spanO o s l m with _ | ⟨u, v⟩
  · rfl
  · obtain ⟨su, sv⟩ := span_sm ho hs hl hm e
    simp only [pack]
    rw [if_pos trivial, fold_eq (k + 1) p q u v hp hq su sv, j3_eq _ _ _ (mx_sm hp su) (mn_sm hq sv)]

theorem j1_eq (k : Nat) (p q : Fr) (hp : p.sm) (hq : q.sm) (a b c d : Int) (o s l m : Int) (ho : -65536 ≤ o ∧ o ≤ 65536) (hs : -32768 ≤ s ∧ s ≤ 32768) (hl : -131072 ≤ l ∧ l ≤ 131072) (hm : -131072 ≤ m ∧ m ≤ 131072)
    (o' s' l' m' : Int) (ho' : -65536 ≤ o' ∧ o' ≤ 65536) (hs' : -32768 ≤ s' ∧ s' ≤ 32768) (hl' : -131072 ≤ l' ∧ l' ≤ 131072) (hm' : -131072 ≤ m' ∧ m' ≤ 131072) :
    G.slab_Range.j1 (k + 7) p.n p.d q.n q.d a b c d o s l m o' s' l' m' = some (packE (match spanO o s l m with
      | none => none
      | some (p2, q2) => match spanO o' s' l' m' with
        | none => none
        | some (p3, q3) => if (mnF (mnF q q2) q3).lt (mxF (mxF p p2) p3) then none else some (mxF (mxF p p2) p3, mnF (mnF q q2) q3))) := by
  rw [G.slab_Range.j1, span_eq _ _ _ _ _ (by omega) (by omega) hl hm, Option.bind_some]
  rcases e : spanO o s l m with _ | ⟨u, v⟩
  · rfl
  · obtain ⟨su, sv⟩ := span_sm ho hs hl hm e
    simp only [pack]
    rw [if_pos trivial, fold_eq (k + 2) p q u v hp hq su sv (fun x y z t => G.slab_Range.j2 (k + 6) x y z t a b c d o s l m o' s' l' m'), j2_eq _ _ _ (mx_sm hp su) (mn_sm hq sv) _ _ _ _ _ _ _ _ _ _ _ _ ho' hs' hl' hm']

theorem j0_eq (k : Nat) (o d l h : Vec) (b : bx o d l h) :
    G.slab_Range.j0 (k + 8) false o.x o.y o.z d.x d.y d.z l.x l.y l.z h.x h.y h.z = some (packE (cut3 (spanO o.x d.x l.x h.x) (spanO o.y d.y l.y h.y) (spanO o.z d.z l.z h.z))) := by
  obtain ⟨⟨ox, oy, oz⟩, ⟨dx, dy, dz⟩, ⟨lx, ly, lz⟩, hx, hy, hz⟩ := b
  rw [G.slab_Range.j0, if_neg (by decide), span_eq _ _ _ _ _ (by omega) (by omega) lx hx, Option.bind_some]
  unfold cut3
  rcases e : spanO o.x d.x l.x h.x with _ | ⟨u, v⟩
  · rfl
  · obtain ⟨su, sv⟩ := span_sm ox dx lx hx e
    have F := fold_eq (k + 3) zeroF infF u v zero_sm inf_sm su sv (fun x y z t => G.slab_Range.j1 (k + 7) x y z t o.x d.x l.x h.x o.y d.y l.y h.y o.z d.z l.z h.z)
    simp only [pack]
    rw [if_pos trivial]
    refine F.trans ?_
    rw [j1_eq _ _ _ (mx_sm zero_sm su) (mn_sm inf_sm sv) _ _ _ _ _ _ _ _ oy dy ly hy _ _ _ _ oz dz lz hz]

def okS (o d l h : Vec) : Prop := ¬ d.zero ∧ bx o d l h
instance (o d l h : Vec) : Decidable (okS o d l h) := by unfold okS bx; infer_instance
def rangeS (o d l h : Vec) : Int × Int × Int × Int × Bool × Int :=
  if okS o d l h then packE (cut3 (spanO o.x d.x l.x h.x) (spanO o.y d.y l.y h.y) (spanO o.z d.z l.z h.z)) else (0, 0, 0, 0, false, 21)

theorem range_eq (k : Nat) (o d l h : Vec) : G.slab_Range.f (k + 8) o.x o.y o.z d.x d.y d.z l.x l.y l.z h.x h.y h.z = some (rangeS o d l h) := by
  unfold G.slab_Range.f rangeS
  have jt : G.slab_Range.j0 (k + 8) true o.x o.y o.z d.x d.y d.z l.x l.y l.z h.x h.y h.z = some (0, 0, 0, 0, false, 21) := by
    rw [G.slab_Range.j0, if_pos rfl]
  by_cases h0 : d.zero
  · rw [if_pos (by obtain ⟨a, b, c⟩ := h0; rw [a, b, c]; rfl), jt, if_neg (fun q => q.1 h0)]
  · rw [if_neg (by
      intro q
      rw [Bool.and_eq_true, Bool.and_eq_true, beq_iff_eq, beq_iff_eq, beq_iff_eq] at q
      exact h0 q)]
    rw [within_eq _ _ _ _ (by decide) (by decide), Option.bind_some]
    by_cases h1 : o.in_ 65536
    · rw [if_pos (decide_eq_true h1), within_eq _ _ _ _ (by decide) (by decide), Option.bind_some]
      by_cases h2 : d.in_ 32768
      · rw [if_pos (decide_eq_true h2), within_eq _ _ _ _ (by decide) (by decide), Option.bind_some]
        by_cases h3 : l.in_ 131072
        · rw [if_pos (decide_eq_true h3), within_eq _ _ _ _ (by decide) (by decide), Option.bind_some]
          by_cases h4 : h.in_ 131072
          · rw [decide_eq_true (show (⟨h.x, h.y, h.z⟩ : Vec).in_ 131072 from h4)]
            have b : bx o d l h := ⟨h1, h2, h3, h4⟩
            rw [if_pos ⟨h0, b⟩]
            exact j0_eq k o d l h b
          · rw [decide_eq_false (show ¬ (⟨h.x, h.y, h.z⟩ : Vec).in_ 131072 from h4), if_neg (fun q => h4 q.2.2.2.2)]
            exact jt
        · rw [if_neg (by rw [decide_eq_false (show ¬ (⟨l.x, l.y, l.z⟩ : Vec).in_ 131072 from h3)]; decide), if_neg (fun q => h3 q.2.2.2.1), jt]
      · rw [if_neg (by rw [decide_eq_false (show ¬ (⟨d.x, d.y, d.z⟩ : Vec).in_ 32768 from h2)]; decide), if_neg (fun q => h2 q.2.2.1), jt]
    · rw [if_neg (by rw [decide_eq_false (show ¬ (⟨o.x, o.y, o.z⟩ : Vec).in_ 65536 from h1)]; decide), if_neg (fun q => h1 q.2.1), jt]
end Go.Proofs.Ytihklolcnfbbjaa.M
