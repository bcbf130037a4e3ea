/- Words for the laws of the cache. -/
import Derived.Test.YtfhjdhhflpekiaaCAlive
import Derived.Test.YtfhjdhhflpekiaaGx18
import Derived.Deep.RegionHeld3
namespace Go.Proofs.Ytfhjdhhflpekiaa.G
open Go.RowKit Go.Proofs.Cache Go.Proofs.YtfhjdhhflpekiaaW.PrintWords Go.Proofs.YtfhjdhhflpekiaaW.PrintLast Go.Proofs.YtfhjdhhflpekiaaW.PrintMore
set_option linter.unusedVariables false
set_option linter.unusedSimpArgs false
theorem great_l0 (l : List Int) (hl : l.length ≤ 50) : ∀ d j, j ≤ l.length → l.length - j = d → ∃ r, relievolaw17_great.l0 (d + 1) l (j : Int) = some r ∧ (r = false → ∀ i, j ≤ i → i < l.length → l.getD i 0 ≤ 1000)
  | 0, j, hj, hd => ⟨false, by rw [relievolaw17_great.l0, if_neg (by omega)], fun _ i h1 h2 => by omega⟩
  | d + 1, j, hj, hd => by
    rw [relievolaw17_great.l0, if_pos (by omega), if_pos (by omega)]
    by_cases c : rd l j > 1000
    · exact ⟨true, by rw [if_pos c], fun h => by cases h⟩
    · rw [if_neg c]
      have e : wrap64 ((j : Int) + 1) = ((j + 1 : Nat) : Int) := by unfold wrap64; omega
      rw [e]
      obtain ⟨r, h1, h2⟩ := great_l0 l hl d (j + 1) (by omega) (by omega)
      refine ⟨r, h1, fun hr i hi hlt => ?_⟩
      by_cases q : i = j
      · subst q
        simpa [rd] using c
      · exact h2 hr i (by omega) hlt
theorem great_says (l0 l1 l2 : List Int) : ∃ k r, relievolaw17_great.f k l0 l1 l2 = some r ∧ (r = false → l0.length ≤ 50 ∧ l1.length ≤ 300 ∧ l2.length ≤ 200 ∧ ∀ x ∈ l0, x ≤ 1000) := by
  unfold relievolaw17_great.f
  by_cases c0 : (l0.length : Int) > 50
  · exact ⟨1, true, by rw [if_pos c0]; rfl, fun h => by cases h⟩
  · by_cases c1 : (l1.length : Int) > 300
    · exact ⟨1, true, by rw [if_neg c0, if_pos c1]; rfl, fun h => by cases h⟩
    · by_cases c2 : (l2.length : Int) > 200
      · exact ⟨1, true, by rw [if_neg c0, if_neg c1, decide_eq_true c2]; rfl, fun h => by cases h⟩
      · obtain ⟨r, h1, h2⟩ := great_l0 l0 (by omega) l0.length 0 (by omega) (by omega)
        refine ⟨l0.length + 2, r, ?_, fun hr => ⟨by omega, by omega, by omega, ?_⟩⟩
        · rw [if_neg c0, if_neg c1, decide_eq_false c2, relievolaw17_great.j0, if_neg (by simp)]
          exact h1
        · intro x hx
          obtain ⟨i, hi, rfl⟩ := List.mem_iff_getElem.1 hx
          have := h2 hr i (by omega) hi
          rw [List.getD_eq_getElem?_getD, List.getElem?_eq_getElem hi] at this
          exact this
/-- What great answers. -/
def Greats (l0 l1 l2 : List Int) (w : World) (e : Ending) (w' : World) : Prop :=
  ∃ r, e = .returned (.bool r) ∧ Drawn0 w w' ∧ (r = false → l0.length ≤ 50 ∧ l1.length ≤ 300 ∧ l2.length ≤ 200 ∧ ∀ x ∈ l0, x ≤ 1000)
theorem great_calls (A0 : Option Addr) (c0 : Nat) (l0 : List Int) (A1 : Option Addr) (c1 : Nat) (l1 : List Int) (A2 : Option Addr) (c2 : Nat) (l2 : List Int) (w : World) (hr0 : Kd.C (Kd.int .i64) w A0 l0.length l0) (hc0 : l0.length ≤ c0) (hr1 : Kd.C (Kd.int .i64) w A1 l1.length l1) (hc1 : l1.length ≤ c1) (hr2 : Kd.C (Kd.int .i64) w A2 l2.length l2) (hc2 : l2.length ≤ c2) :
    Calls Try.prog 9 #[.slice A0 l0.length c0, .slice A1 l1.length c1, .slice A2 l2.length c2] w (Greats l0 l1 l2 w) := by
  obtain ⟨k, r, h1, h2⟩ := great_says l0 l1 l2
  refine (relievolaw17_great.calls k A0 c0 l0 A1 c1 l1 A2 c2 l2 r w hr0 hc0 hr1 hc1 hr2 hc2 h1).mono ?_
  rintro e w' ⟨rfl, hd⟩
  exact ⟨r, rfl, hd, h2⟩
section
variable {a b c d a' b' c' d' : Int}
theorem eq_tally (w : World) : (Op.equalIn 10000 32 (.agg #[.int .i64 a, .int .i64 b, .int .i64 c, .int .i64 d]) (.agg #[.int .i64 a', .int .i64 b', .int .i64 c', .int .i64 d'])).run Try.prog w = .ok ((a == a') && ((b == b') && ((c == c') && (d == d')))) w := by
  have hp : Try.prog.stoodInHeld 32 = false := by kernel_rfl
  have h3 : ∀ x y : Int, (Op.equalIn 9999 3 (.int .i64 x) (.int .i64 y)).run Try.prog w = .ok (x == y) w := fun x y => run_equalIn_int w 9998 3 .i64 .i64 x y Try.underlying3
  have pt : ∀ (xs : Array Value) (i : Nat) (v : Value), xs[i]? = some v → (part 3 xs i).run Try.prog w = .ok v w := fun xs i v h => by
    simp [part, isAgg, run_underlying Try.underlying3, h]
  exact eqA_of (d := 9999) Try.underlying32 hp (eqf_cons (by decide) (pt _ 0 _ rfl) (pt _ 0 _ rfl) (h3 _ _) (eqf_cons (by decide) (pt _ 1 _ rfl) (pt _ 1 _ rfl) (h3 _ _) (eqf_cons (by decide) (pt _ 2 _ rfl) (pt _ 2 _ rfl) (h3 _ _) (eqf_last (by decide) (pt _ 3 _ rfl) (pt _ 3 _ rfl) (h3 _ _)))))
end
theorem tally_same (a b c d : Int) : ∀ w, (Op.equalIn 10000 32 (.agg #[.int .i64 a, .int .i64 b, .int .i64 c, .int .i64 d]) (.agg #[.int .i64 a, .int .i64 b, .int .i64 c, .int .i64 d])).run Try.prog w = .ok true w := fun w => by
  rw [eq_tally]
  simp
theorem rd_arg {w : World} {N : Nat → Prop} {A : Option Addr} {l : List Int} (h : Kd.C (Kd.int .i64) w A l.length l) : Rd (Kd.int .i64) ⟨w.heap.size, N⟩ w A l :=
  ⟨h, fun hn a e => by
    subst e
    have := Kd.C_lt h hn (by decide)
    exact ⟨this, .inl this⟩⟩
theorem cell_grow_below {w W : World} {ad : Addr} {l : List Int} {j : Nat} (hb : Below w.heap.size w W) (h : Kd.C (Kd.int .i64) w (some ad) l.length l) (hj : j < l.length) : W.cell? (ad.add j) = w.cell? (ad.add j) := by
  have := Kd.C_lt h (by omega) (by decide)
  exact hb.cell (p := ad.add j) (by rw [addB]; exact this)
theorem Live.tally_as {B : Bd} {sizes : List Int} {w : World} {g : Nat} {p : PS} {s : Cs} (h : Live B sizes w g p s) {a b c d : Int} (e : p.tb = a ∧ p.td = b ∧ p.tp = c ∧ p.tm = d) :
    Calls Try.prog 20 #[.pointer (some ⟨g, 0, none⟩)] w fun x w' => x = .returned (.agg #[.int .i64 a, .int .i64 b, .int .i64 c, .int .i64 d]) ∧ Below w.heap.size w w' := by
  obtain ⟨rfl, rfl, rfl, rfl⟩ := e
  exact h.tallyc
theorem Live.kept_as {B : Bd} {sizes : List Int} {w : World} {g : Nat} {p : PS} {s : Cs} (h : Live B sizes w g p s) (hn : p.now ≤ 1000000) {l : List Int} (e : p.kept.map (·.i) = l) :
    Calls Try.prog 17 #[.pointer (some ⟨g, 0, none⟩)] w (KeptPost l w) := by
  subst e
  exact h.keptc hn
theorem Live.held_as {B : Bd} {sizes : List Int} {w : World} {g : Nat} {p : PS} {s : Cs} (h : Live B sizes w g p s) (hn : p.now ≤ 1000000) {n : Nat} (e : Cache.held p.kept = n) :
    Calls Try.prog 18 #[.pointer (some ⟨g, 0, none⟩)] w fun x w' => x = .returned (.int .i64 n) ∧ w' = w := by
  subst e
  exact h.heldc hn
theorem tally_bad {sizes : List Int} {p : PS} {i : Int} (hi : Cache.Inv sizes p) (hb : badI sizes i = true) : (getP sizes p i).tb = p.tb ∧ (getP sizes p i).td = p.td ∧ (getP sizes p i).tp = p.tp ∧ (getP sizes p i).tm = p.tm := by
  have c : ¬ findI p.kept i < p.kept.length := fun c => by
    obtain ⟨k, hk, rfl⟩ := find_mem c
    rw [(hi.size k hk).1] at hb
    cases hb
  unfold getP
  rw [if_neg c, hb]
  exact ⟨rfl, rfl, rfl, rfl⟩
theorem tally_hit {sizes : List Int} {p : PS} {i : Int} (c : findI p.kept i < p.kept.length) : (getP sizes p i).tb = p.tb ∧ (getP sizes p i).td = p.td ∧ (getP sizes p i).tp = p.tp ∧ (getP sizes p i).tm = p.tm := by
  unfold getP
  rw [if_pos c]
  exact ⟨rfl, rfl, rfl, rfl⟩
theorem tally_new {sizes : List Int} {p : PS} {i : Int} (c : ¬ findI p.kept i < p.kept.length) (hb : badI sizes i = false) : (getP sizes p i).tb = p.tb + 1 := by
  unfold getP
  rw [if_neg c, hb]
  exact keepP_tb _ _
/-- What a law may lean on at a state. -/
structure Sums (p : PS) (rr : Int) (hv : Nat) (L : Nat) : Prop where
  room : p.room = rr
  held : Cache.held p.kept = hv
  len : p.kept.length = L
  b : 0 ≤ p.tb ∧ p.tb ≤ 1000000
  d : 0 ≤ p.td ∧ p.td ≤ 1000000
  q : 0 ≤ p.tp ∧ p.tp ≤ 1000000
  m : 0 ≤ p.tm ∧ p.tm ≤ rr
  h : (hv : Int) ≤ rr
  sum : p.tb = p.td + p.tp + L
theorem sums {sizes : List Int} {p : PS} (h : Cache.Inv sizes p) (hn : p.now ≤ 1000000) : Sums p p.room (Cache.held p.kept) p.kept.length := by
  have h1 := h.tb
  have h2 := h.td
  have h3 := h.tp
  exact ⟨rfl, rfl, rfl, ⟨h1.1, by omega⟩, ⟨h2.1, by omega⟩, ⟨h3.1, by omega⟩, h.tm, h.roomy, h.sum⟩
theorem i64_wf {x : Int} (h : (Lit.int .i64 x).wf = true) : I64 x := by
  have h' : (decide (IntKind.i64.min ≤ x) && decide (x ≤ IntKind.i64.max)) = true := h
  rw [Bool.and_eq_true, decide_eq_true_iff, decide_eq_true_iff] at h'
  have e1 : IntKind.i64.min = -9223372036854775808 := by decide
  have e2 : IntKind.i64.max = 9223372036854775807 := by decide
  rw [e1, e2] at h'
  exact h'
/-- Is a number among these? -/
def amid (l : List Int) (x : Int) (k : Nat) : Bool := (l.take k).any (· == x)
theorem amid_step (l : List Int) (x : Int) (k : Nat) (h : k < l.length) : amid l x (k + 1) = (amid l x k || (l.getD k 0 == x)) := by
  unfold amid
  rw [take_snocI l k h, List.any_append]
  simp
theorem amid_all (l : List Ke) (x : Int) : amid (l.map (·.i)) x (l.map (·.i)).length = decide (findI l x < l.length) := by
  unfold amid findI
  rw [List.take_length, List.any_map]
  rw [Bool.eq_iff_iff, decide_eq_true_iff, List.any_eq_true]
  constructor
  · rintro ⟨k, hk, h⟩
    exact List.findIdx_lt_length_of_exists ⟨k, hk, h⟩
  · intro h
    exact ⟨_, List.getElem_mem h, List.findIdx_getElem (w := h)⟩
end Go.Proofs.Ytfhjdhhflpekiaa.G
