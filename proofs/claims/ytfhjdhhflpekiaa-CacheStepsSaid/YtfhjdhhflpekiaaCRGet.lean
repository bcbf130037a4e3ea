/- The document's Get does what the plain one says. -/
import Derived.Test.YtfhjdhhflpekiaaCRAdd
namespace Go.Proofs.Ytfhjdhhflpekiaa.G
open Go.RowKit Go.Proofs.Cache Go.Proofs.YtfhjdhhflpekiaaW.PrintWords Go.Proofs.YtfhjdhhflpekiaaW.PrintLast Go.Proofs.YtfhjdhhflpekiaaW.PrintMore
set_option linter.unusedVariables false
set_option linter.unusedSimpArgs false
section
variable {sizes : List Int} {p : PS} {i : Int}
theorem rd_len : (rdOf p).K.length = p.kept.length := ids_len p
theorem rd_alen : (rdOf p).K.length = (rdOf p).A.length := by
  show (p.kept.map (·.i)).length = (p.kept.map (·.asked)).length
  rw [List.length_map, List.length_map]
theorem bad_parts (h : badI sizes i = false) : 0 ≤ i ∧ i < sizes.length ∧ 0 ≤ rd sizes i ∧ rd sizes i = sizeI sizes i := by
  simp only [badI, Bool.or_eq_false_iff, decide_eq_false_iff_not] at h
  refine ⟨by omega, by omega, ?_, ?_⟩
  · show 0 ≤ sizes.getD i.toNat 0
    omega
  · show sizes.getD i.toNat 0 = ((sizes.getD i.toNat 0).toNat : Int)
    omega
theorem rd_in (h : Inv sizes p) (hn : p.now ≤ 100000) : RIn sizes (rdOf p) := by
  have h1 := h.len
  have h2 := h.td
  have h3 := h.tb
  have e := rd_len (p := p)
  refine ⟨fun x hx => ?_, rd_alen, by omega, ?_⟩
  · obtain ⟨k, hk, rfl⟩ := List.mem_map.1 hx
    obtain ⟨k1, k2, k3, _⟩ := h.size k hk
    obtain ⟨b1, b2, b3, b4⟩ := bad_parts k1
    exact ⟨b1, b2, b3, by rw [b4]; omega⟩
  · show 0 ≤ p.td ∧ p.td + ((rdOf p).K.length : Nat) ≤ 1000000
    omega
theorem rget.calls {b : Nat} {w : World} {r : Rf} (h : RefS b sizes w r (rdOf p)) (hi : Inv sizes p) (hs : ∀ x ∈ sizes, x ≤ 1000) (hn : p.now ≤ 100000) :
    Calls Try.prog 14 #[.pointer (some ⟨r.g, 0, none⟩), .int .i64 i] w (RGot b sizes w r (!badI sizes i) (rdOf (getP sizes p i))) := by
  have h0 := hi.now
  have h1 := hi.len
  have h2 := hi.tb
  have h3 := hi.tp
  have e := rd_len (p := p)
  have hl : (rdOf p).K.length ≤ 1000000 := by omega
  have hnn : 0 ≤ (rdOf p).now ∧ (rdOf p).now ≤ 1000000 := by
    show 0 ≤ p.now ∧ p.now ≤ 1000000
    omega
  have hf : findR (rdOf p).K i = findI p.kept i := rd_find
  by_cases c : findI p.kept i < p.kept.length
  · have hb : badI sizes i = false := by
      obtain ⟨k, hk, rfl⟩ := find_mem c
      exact (hi.size k hk).1
    have hg : getP sizes p i = hitP (nowP p) (findI p.kept i) := if_pos c
    have := rgetHit.calls (i := i) h rd_alen hl hnn (by rw [hf, e]; exact c)
    rw [hf] at this
    rw [hb, hg, rd_hit]
    exact this
  · have hle : findI p.kept i ≤ p.kept.length := List.findIdx_le_length
    have hj : findR (rdOf p).K i = (rdOf p).K.length := by rw [hf, e]; omega
    cases hb : badI sizes i with
    | true =>
      have hg : getP sizes p i = nowP p := by unfold getP; rw [if_neg c, hb]; rfl
      rw [hg]
      show Calls _ _ _ _ (RGot b sizes w r false (rdOf p).tick)
      simp only [badI, Bool.or_eq_true, decide_eq_true_eq] at hb
      by_cases c1 : i < 0
      · exact rgetNeg.calls i h hl hnn hj c1
      · by_cases c2 : (sizes.length : Int) ≤ i
        · exact rgetFar.calls i h hl hnn hj (by omega) c2
        · exact rgetLess.calls i h hl hnn hj (by omega) (by omega) _ rfl (by
            show sizes.getD i.toNat 0 < 0
            omega)
    | false =>
      obtain ⟨b1, b2, b3, b4⟩ := bad_parts hb
      have hsz := size_le hb hs
      have hg : getP sizes p i = keepP { nowP p with tb := p.tb + 1 } ⟨i, p.now + 1, sizeI sizes i⟩ := by unfold getP; rw [if_neg c, hb]; rfl
      rw [hg]
      by_cases c1 : p.room < (sizeI sizes i : Int)
      · have hk : keepP { nowP p with tb := p.tb + 1 } ⟨i, p.now + 1, sizeI sizes i⟩ = { nowP p with tb := p.tb + 1, tp := p.tp + 1 } := if_pos c1
        rw [hk]
        exact rgetPass.calls i h hl hnn hj b1 b2 _ b4 (by omega) c1 (by show 0 ≤ p.tb ∧ p.tb ≤ 1000000; omega) (by show 0 ≤ p.tp ∧ p.tp ≤ 1000000; omega)
      · have hk : keepP { nowP p with tb := p.tb + 1 } ⟨i, p.now + 1, sizeI sizes i⟩ = addP (roomP (sizeI sizes i) p.kept.length { nowP p with tb := p.tb + 1 }) ⟨i, p.now + 1, sizeI sizes i⟩ := if_neg c1
        have hK : ∀ s : PS, (∀ k ∈ s.kept, k ∈ p.kept) → ∀ x ∈ s.kept, badI sizes x.i = false ∧ x.n = sizeI sizes x.i := fun s hs x hx => ⟨(hi.size x (hs x hx)).1, (hi.size x (hs x hx)).2.1⟩
        have hrm := fun x hx => roomP_kept (sizeI sizes i) p.kept.length { nowP p with tb := p.tb + 1 } x hx
        rw [hk, rd_add (sizes := sizes) (hK _ hrm) ⟨hb, rfl⟩ (by rw [(roomP_same _ _ _).2.1]; rfl), rd_room _ _ { nowP p with tb := p.tb + 1 } (fun k hk => ⟨(hi.size k hk).1, (hi.size k hk).2.1⟩)]
        have := rgetAdd.calls i h hl hnn hj b1 b2 _ b4 (by omega) (by omega) (by show (sizeI sizes i : Int) ≤ p.room; omega) (by show 0 ≤ p.tb ∧ p.tb ≤ 1000000; omega) (rd_in hi hn)
        rw [e] at this
        exact this
end
end Go.Proofs.Ytfhjdhhflpekiaa.G
