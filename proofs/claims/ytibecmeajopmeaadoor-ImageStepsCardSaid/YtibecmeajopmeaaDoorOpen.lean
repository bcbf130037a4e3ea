/- This file opens a struct argument whose cells are all whole numbers: the value is an aggregate of so many numbers of the kinds told, each within its kind. It holds of every program. -/
import Derived.WideShapes
import Derived.Below
namespace Go.Proofs.FlatOpen

/-- Each number is of its kind. -/
def HasAll : List IntKind → List Int → Prop
  | k :: ks, x :: xs => k.has x ∧ HasAll ks xs
  | [], [] => True
  | _, _ => False

theorem cell_int {P : Program} {w : World} {r : Reach} {base : Nat} {u : TypeId} {v : Value} {k : IntKind} (hu : P.underlying u = some (.int k)) (h : Cell.okWide P w r base u v) : ∃ x, v = .int k x ∧ k.has x := by
  unfold Cell.okWide at h
  rw [hu] at h
  cases v <;> simp [Cell.ok, hu] at h
  obtain ⟨rfl, h2⟩ := h
  exact ⟨_, rfl, h2⟩

theorem row_ints {P : Program} {w : World} {r : Reach} {base : Nat} : ∀ (ts : List TypeId) (ks : List IntKind) (cs : List Value), ts.map P.underlying = ks.map (fun k => some (TypeDesc.int k)) → cs.length = ts.length →
    (∀ (i : Nat) (v : Value), cs[i]? = some v → ∃ u, ts[i]? = some u ∧ Cell.okWide P w r base u v) → ∃ xs : List Int, cs = List.zipWith Value.int ks xs ∧ HasAll ks xs
  | [], [], [], _, _, _ => ⟨[], rfl, trivial⟩
  | [], _ :: _, _, h, _, _ => by simp at h
  | _ :: _, [], _, h, _, _ => by simp at h
  | [], [], _ :: _, _, h, _ => by simp at h
  | _ :: _, _ :: _, [], _, h, _ => by simp at h
  | t :: ts, k :: ks, c :: cs, h, hl, hc => by
    simp only [List.map_cons, List.cons.injEq] at h
    obtain ⟨u, hu, hok⟩ := hc 0 c rfl
    simp only [List.getElem?_cons_zero, Option.some.injEq] at hu
    subst hu
    obtain ⟨x, rfl, hx⟩ := cell_int h.1 hok
    obtain ⟨xs, rfl, hxs⟩ := row_ints ts ks cs h.2 (by simpa using hl) (fun i v hv => by simpa using hc (i + 1) v (by simpa using hv))
    exact ⟨x :: xs, rfl, hx, hxs⟩

/-- A struct all of whose cells are whole numbers, by value. -/
theorem open_flat {P : Program} {w : World} {r : Reach} {base : Nat} {t : TypeId} {fs : Array Field} {v : Value} (ts : List TypeId) (ks : List IntKind) (hu : P.underlying t = some (.struct fs))
    (hct : P.cellTypes P.depth t = some ts) (hk : ts.map P.underlying = ks.map (fun k => some (TypeDesc.int k))) (hn : P.cellsOf t = ts.length) (h : Value.okWide P w r base t v) :
    ∃ xs : List Int, v = .agg (List.zipWith Value.int ks xs).toArray ∧ HasAll ks xs := by
  unfold Value.okWide at h
  rw [hu] at h
  obtain ⟨cs, rfl, hsz, ts', hts, _, hcell⟩ := h
  rw [hct] at hts
  injection hts with hts
  subst hts
  obtain ⟨xs, hx, hh⟩ := row_ints (P := P) (w := w) (r := r) (base := base) ts ks cs.toList hk (by simpa using hsz.trans hn) (fun i v hv => by
    have hi : i < ts.length := by
      have := (List.getElem?_eq_some_iff.1 hv).1
      rw [← hn, ← hsz]
      simpa using this
    obtain ⟨u, h1, h2⟩ := hcell i v (by simpa using hv)
    rw [Nat.mod_eq_of_lt hi] at h1
    exact ⟨u, h1, h2⟩)
  exact ⟨xs, by rw [← hx], hh⟩

theorem two {k0 k1 : IntKind} {xs : List Int} (h : HasAll [k0, k1] xs) : ∃ x0 x1, xs = [x0, x1] ∧ k0.has x0 ∧ k1.has x1 := by
  match xs, h with
  | [a, b], ⟨h0, h1, _⟩ => exact ⟨a, b, rfl, h0, h1⟩
theorem three {k0 k1 k2 : IntKind} {xs : List Int} (h : HasAll [k0, k1, k2] xs) : ∃ x0 x1 x2, xs = [x0, x1, x2] ∧ k0.has x0 ∧ k1.has x1 ∧ k2.has x2 := by
  match xs, h with
  | [a, b, c], ⟨h0, h1, h2, _⟩ => exact ⟨a, b, c, rfl, h0, h1, h2⟩
theorem six {k0 k1 k2 k3 k4 k5 : IntKind} {xs : List Int} (h : HasAll [k0, k1, k2, k3, k4, k5] xs) : ∃ x0 x1 x2 x3 x4 x5, xs = [x0, x1, x2, x3, x4, x5] ∧ k0.has x0 ∧ k1.has x1 ∧ k2.has x2 ∧ k3.has x3 ∧ k4.has x4 ∧ k5.has x5 := by
  match xs, h with
  | [a, b, c, d, e, f], ⟨h0, h1, h2, h3, h4, h5, _⟩ => exact ⟨a, b, c, d, e, f, rfl, h0, h1, h2, h3, h4, h5⟩
theorem nine {k0 k1 k2 k3 k4 k5 k6 k7 k8 : IntKind} {xs : List Int} (h : HasAll [k0, k1, k2, k3, k4, k5, k6, k7, k8] xs) : ∃ x0 x1 x2 x3 x4 x5 x6 x7 x8, xs = [x0, x1, x2, x3, x4, x5, x6, x7, x8] ∧ k0.has x0 ∧ k1.has x1 ∧ k2.has x2 ∧ k3.has x3 ∧ k4.has x4 ∧ k5.has x5 ∧ k6.has x6 ∧ k7.has x7 ∧ k8.has x8 := by
  match xs, h with
  | [a, b, c, d, e, f, g, i, j], ⟨h0, h1, h2, h3, h4, h5, h6, h7, h8, _⟩ => exact ⟨a, b, c, d, e, f, g, i, j, rfl, h0, h1, h2, h3, h4, h5, h6, h7, h8⟩
theorem has_i64 {x : Int} (h : IntKind.i64.has x) : -9223372036854775808 ≤ x ∧ x ≤ 9223372036854775807 := by
  obtain ⟨h1, h2⟩ := h
  have e1 : IntKind.i64.min = -9223372036854775808 := by decide +kernel
  have e2 : IntKind.i64.max = 9223372036854775807 := by decide +kernel
  omega
theorem has_u64 {x : Int} (h : IntKind.u64.has x) : 0 ≤ x ∧ x ≤ 18446744073709551615 := by
  obtain ⟨h1, h2⟩ := h
  have e1 : IntKind.u64.min = 0 := by decide +kernel
  have e2 : IntKind.u64.max = 18446744073709551615 := by decide +kernel
  omega
theorem wf_i64 {x : Int} (h : (Lit.int .i64 x).wf = true) : -9223372036854775808 ≤ x ∧ x ≤ 9223372036854775807 := by
  simp only [Lit.wf, Bool.and_eq_true, decide_eq_true_eq] at h
  exact has_i64 h
end Go.Proofs.FlatOpen
