/- Two caches side by side. -/
import Derived.Test.YtfhjdhhflpekiaaCLaw
namespace Go.Proofs.Ytfhjdhhflpekiaa.G
open Go.RowKit Go.Proofs.Cache Go.Proofs.YtfhjdhhflpekiaaW.PrintWords Go.Proofs.YtfhjdhhflpekiaaW.PrintLast Go.Proofs.YtfhjdhhflpekiaaW.PrintMore
set_option linter.unusedVariables false
set_option linter.unusedSimpArgs false
section
variable {B : Nat} {sizes : List Int} {w w1 : World} {ga gb : Nat} {pa pb : PS} {sa sb sa' sb' : Cs}
/-- The other cache's call leaves a cache. -/
theorem Live.other (hb : Live B sizes w gb pb sb) (ha : CacheAt B sizes w sa) (l : Left B sizes NoX w sa w1 sa') (d : ∀ k, Mut sa k → ¬ Mut sb k) : Live B sizes w1 gb pb sb :=
  ⟨hb.at_.other l.frame (fun k hk hs => ha.safe hs hk) (fun k hk hm => d k hm hk), hb.ps, hb.inv, hb.gs⟩
theorem dis_a (hb : CacheAt B sizes w sb) (l : Left B sizes NoX w sa w1 sa') (d : ∀ k, Mut sa k → ¬ Mut sb k) : ∀ k, Mut sa' k → ¬ Mut sb k := fun k hk hm => by
  rcases l.own k hk with x | x | x
  · exact d k x hm
  · exact x
  · have := hb.lt hm
    omega
theorem dis_b (ha : CacheAt B sizes w sa) (l : Left B sizes NoX w sb w1 sb') (d : ∀ k, Mut sa k → ¬ Mut sb k) : ∀ k, Mut sa k → ¬ Mut sb' k := fun k hk hm => by
  rcases l.own k hm with x | x | x
  · exact d k hk x
  · exact x
  · have := ha.lt hk
    omega
theorem dis_new (ha : CacheAt B sizes w sa) (hb : ∀ k, Mut sb k → w.heap.size ≤ k) : ∀ k, Mut sa k → ¬ Mut sb k := fun k hk hm => by
  have := hb k hm
  have := ha.lt hk
  omega
theorem Live.other' (ha : Live B sizes w ga pa sa) (hb : CacheAt B sizes w sb) (l : Left B sizes NoX w sb w1 sb') (d : ∀ k, Mut sa k → ¬ Mut sb k) : Live B sizes w1 ga pa sa :=
  ha.other hb l fun k hk hm => d k hm hk
end
theorem kd_nil {α : Type} (d : Kd α) (w : World) : Kd.C d w none ([] : List α).length [] := ⟨rfl, Nat.zero_le _, fun h => absurd h (Nat.lt_irrefl 0)⟩
end Go.Proofs.Ytfhjdhhflpekiaa.G
