/- Two caches side by side; answers that are the same. -/
import Derived.Test.YtfhjdhhflpekiaaCLaw
import Derived.Test.YtfhjdhhflpekiaaGx29
namespace Go.Proofs.Ytfhjdhhflpekiaa.G
open Go.RowKit Go.Proofs.Cache Go.Proofs.YtfhjdhhflpekiaaW.PrintWords Go.Proofs.YtfhjdhhflpekiaaW.PrintLast Go.Proofs.YtfhjdhhflpekiaaW.PrintMore
set_option linter.unusedVariables false
set_option linter.unusedSimpArgs false
section
variable {B : Nat} {sizes : List Int} {w w1 : World} {ga gb : Nat} {pa pb : PS} {sa sb sa' sb' : Cs}
/-- The other cache's call leaves a cache. -/
theorem Live.other (hb : Live B sizes w gb pb sb) (ha : CacheAt B sizes w sa) (l : Left B sizes NoX w sa w1 sa') (d : ∀ k, Mut sa k → ¬ Mut sb k) : Live B sizes w1 gb pb sb :=
  ⟨hb.at_.other l.frame (fun k hk hs => ha.safe hs hk) (fun k hk hm => d k hm hk), hb.ps, hb.inv, hb.gs⟩
theorem dis_a (hb : CacheAt B sizes w sb) (l : Left B sizes NoX w sa w1 sa') (d : ∀ k, Mut sa k → ¬ Mut sb k) : ∀ k, Mut sa' k → ¬ Mut sb k := fun k hk hm => by
  rcases l.own k hk with x | x | x
  · exact d k x hm
  · exact x
  · have := hb.lt hm
    omega
theorem dis_b (ha : CacheAt B sizes w sa) (l : Left B sizes NoX w sb w1 sb') (d : ∀ k, Mut sa k → ¬ Mut sb k) : ∀ k, Mut sa k → ¬ Mut sb' k := fun k hk hm => by
  rcases l.own k hm with x | x | x
  · exact d k hk x
  · exact x
  · have := ha.lt hk
    omega
theorem dis_new (ha : CacheAt B sizes w sa) (hb : ∀ k, Mut sb k → w.heap.size ≤ k) : ∀ k, Mut sa k → ¬ Mut sb k := fun k hk hm => by
  have := hb k hm
  have := ha.lt hk
  omega
theorem Live.other' (ha : Live B sizes w ga pa sa) (hb : CacheAt B sizes w sb) (l : Left B sizes NoX w sb w1 sb') (d : ∀ k, Mut sa k → ¬ Mut sb k) : Live B sizes w1 ga pa sa :=
  ha.other hb l fun k hk hm => d k hm hk
end
theorem same_l1 (a a' : List S69) (b b' : List S72) (t : List S73) : ∀ d j, j ≤ t.length → t.length - j = d → t.length ≤ 1000000 → relievoref00_SameMesh.l1 (d + 1) (j : Int) a b t a' b' t = some true
  | 0, j, hj, hd, _ => by rw [relievoref00_SameMesh.l1, if_neg (by omega)]
  | d + 1, j, hj, hd, hm => by
    have e : wrap64 ((j : Int) + 1) = ((j + 1 : Nat) : Int) := by unfold wrap64; omega
    rw [relievoref00_SameMesh.l1, if_pos (by omega), if_pos (by omega), if_pos (by omega), if_neg (by simp), e]
    exact same_l1 a a' b b' t d (j + 1) (by omega) (by omega) hm
theorem same_vs (v : S69) (k : Nat) : relievoref00_SameVs.f (k + 2) [v] [v] = some true := by
  have e : wrap64 1 = 1 := by unfold wrap64; omega
  simp [relievoref00_SameVs.f, relievoref00_SameVs.l0, e]
theorem same_f (v : S69) (t : List S73) (hm : t.length ≤ 1000000) : relievoref00_SameMesh.f (t.length + 3) [v] [] t [v] [] t = some true := by
  have h := same_l1 [v] [v] [] [] t t.length 0 (by omega) (by omega) hm
  rw [relievoref00_SameMesh.f, same_vs]
  simp only [Option.bind_some, if_true, bne_self_eq_false]
  rw [relievoref00_SameMesh.j0, if_neg (by simp), relievoref00_SameMesh.l0, if_neg (by simp)]
  exact h
theorem same_f0 : relievoref00_SameMesh.f 3 [] [] [] [] [] [] = some true := by
  have e1 : relievoref00_SameVs.f 3 [] [] = some true := by simp [relievoref00_SameVs.f, relievoref00_SameVs.l0]
  rw [relievoref00_SameMesh.f, e1]
  simp only [Option.bind_some, if_true, bne_self_eq_false]
  rw [relievoref00_SameMesh.j0, if_neg (by simp), relievoref00_SameMesh.l0, if_neg (by simp), relievoref00_SameMesh.l1, if_neg (by simp)]
theorem kd_nil {α : Type} (d : Kd α) (w : World) : Kd.C d w none ([] : List α).length [] := ⟨rfl, Nat.zero_le _, fun h => absurd h (Nat.lt_irrefl 0)⟩
theorem same_mesh {B : Nat} {w : World} {m m' : Msh} (h : MshAt B w m) (h' : MshAt B w m') (hi : m'.i = m.i) (hn : m'.n = m.n) (hm : m.n ≤ 1000000) :
    Calls Try.prog 21 #[.agg #[.slice m.vA 1 m.vc, .slice none 0 0, .slice m.tA m.n m.tc], .agg #[.slice m'.vA 1 m'.vc, .slice none 0 0, .slice m'.tA m'.n m'.tc]] w fun e w' => e = .returned (.bool true) ∧ Below w.heap.size w w' := by
  have hv := h'.v.1
  have ht := h'.t.1
  have hc := h'.tc
  rw [hi] at hv
  rw [hn] at ht hc
  have := relievoref00_SameMesh.calls _ m.vA m.vc [⟨m.i, 0, 0⟩] none 0 [] m.tA m.tc (List.replicate m.n ⟨0, 0, 0⟩) m'.vA m'.vc [⟨m.i, 0, 0⟩] none 0 [] m'.tA m'.tc (List.replicate m.n ⟨0, 0, 0⟩) true w h.v.1 h.vc (kd_nil _ _) (Nat.le_refl _) h.t.1 (by rw [List.length_replicate]; exact h.tc) hv h'.vc (kd_nil _ _) (Nat.le_refl _) ht (by rw [List.length_replicate]; exact hc) (same_f _ _ (by rw [List.length_replicate]; exact hm))
  rw [List.length_replicate] at this
  rw [hn]
  exact this
theorem same_none (w : World) : Calls Try.prog 21 #[.agg #[.slice none 0 0, .slice none 0 0, .slice none 0 0], .agg #[.slice none 0 0, .slice none 0 0, .slice none 0 0]] w fun e w' => e = .returned (.bool true) ∧ Below w.heap.size w w' :=
  relievoref00_SameMesh.calls 3 none 0 [] none 0 [] none 0 [] none 0 [] none 0 [] none 0 [] true w (kd_nil _ _) (Nat.le_refl _) (kd_nil _ _) (Nat.le_refl _) (kd_nil _ _) (Nat.le_refl _) (kd_nil _ _) (Nat.le_refl _) (kd_nil _ _) (Nat.le_refl _) (kd_nil _ _) (Nat.le_refl _) same_f0
theorem same_tree {B : Nat} {w : World} {m m' : Msh} (h : MshAt B w m) (h' : MshAt B w m') (hi : m'.i = m.i) :
    Calls Try.prog 16 #[.slice m.iA 1 m.ic, .slice m'.iA 1 m'.ic] w fun e w' => e = .returned (.bool true) ∧ Below w.heap.size w w' := by
  have ht := h'.it.1
  rw [hi] at ht
  have e : wrap64 1 = 1 := by unfold wrap64; omega
  refine (relievoref00_SameInts.calls 3 m.iA m.ic [m.i] m'.iA m'.ic [m.i] true w h.it.1 h.ic ht h'.ic (by simp [relievoref00_SameInts.f, relievoref00_SameInts.l0, e])).mono ?_
  rintro e w' ⟨rfl, ⟨n, rfl⟩⟩
  exact ⟨rfl, pw_below_drewN (Below.refl _ _) n⟩
theorem same_items (w : World) : Calls Try.prog 16 #[.slice none 0 0, .slice none 0 0] w fun e w' => e = .returned (.bool true) ∧ Below w.heap.size w w' := by
  refine (relievoref00_SameInts.calls 3 none 0 [] none 0 [] true w (kd_nil _ _) (Nat.le_refl _) (kd_nil _ _) (Nat.le_refl _) (by simp [relievoref00_SameInts.f, relievoref00_SameInts.l0])).mono ?_
  rintro e w' ⟨rfl, ⟨n, rfl⟩⟩
  exact ⟨rfl, pw_below_drewN (Below.refl _ _) n⟩
end Go.Proofs.Ytfhjdhhflpekiaa.G
