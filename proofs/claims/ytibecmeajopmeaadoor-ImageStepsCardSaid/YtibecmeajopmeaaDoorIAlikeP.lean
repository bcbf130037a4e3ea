/- Words for ImageAlike. -/
import Derived.Test.YtibecmeajopmeaaDoorIAlive
namespace Go.Proofs.YtibecmeajopmeaaDoor.G
open Go.RowKit Go.Proofs.YtibecmeajopmeaaDoorW.PrintWords Go.Proofs.YtibecmeajopmeaaDoorW.PrintLast Go.Proofs.YtibecmeajopmeaaDoorW.PrintMore
set_option linter.unusedVariables false
set_option linter.unusedSimpArgs false
theorem Img.but33 {w w1 : World} {a mb n k : Nat} {W H : Int} {M : Int → Int → Px} {old : Array Value} (h : Img w a mb n W H M) (hg : w.heap[k]? = some (.cells old 33 (0, 0))) (hk : ∀ i, i ≠ k → w1.heap[i]? = w.heap[i]?) : Img w1 a mb n W H M := by
  refine ⟨(hk a ?_).trans h.cells, h.map.same (hk mb ?_)⟩
  · rintro rfl
    have := h.cells
    rw [hg] at this
    injection this with this
    injection this with _ this _
    exact absurd this (by decide)
  · rintro rfl
    exact h.map.no_cells hg
/-- So many samples of one colour. -/
def manyM (c : Col) : Nat → Int → Int → Px
  | 0 => fun _ _ => Px.zero
  | k + 1 => addM 2 1 (manyM c k) 1 0 c
theorem many_good (c : Col) : ∀ k, GoodM (manyM c k)
  | 0 => good_zero
  | k + 1 => good_add (many_good c k)
theorem many_no {c : Col} (hc : okC c = false) : ∀ k, manyM c k = fun _ _ => Px.zero
  | 0 => rfl
  | k + 1 => by
    have he : ∀ p, addE 2 1 1 0 c p ≠ 0 := fun p => by
      unfold addE
      rw [if_neg (by decide), if_pos hc]
      decide
    rw [manyM, many_no hc k]
    unfold addM
    rw [if_neg (he _)]
theorem many_yes {c : Col} (hc : okC c = true) : ∀ k : Nat, k ≤ 16 → manyM c k 1 0 = ⟨k * c.r, k * c.g, k * c.b, k⟩ ∧ manyM c k 0 0 = Px.zero
  | 0, _ => by simp [manyM, Px.zero]
  | k + 1, h => by
    obtain ⟨h1, h2⟩ := many_yes hc k (by omega)
    have he : addE 2 1 1 0 c (manyM c k 1 0) = 0 := by
      unfold addE
      rw [if_neg (by decide), if_neg (by rw [hc]; decide), if_neg (by rw [h1]; show ¬ ((k : Int) ≥ 65536); omega)]
    rw [manyM]
    unfold addM
    rw [if_pos he]
    unfold setM
    rw [if_pos ⟨rfl, rfl⟩, if_neg (by decide), h1]
    refine ⟨?_, h2⟩
    unfold addPx
    have d : ∀ x : Int, (k : Int) * x + x = ((k + 1 : Nat) : Int) * x := fun x => by
      rw [show ((k + 1 : Nat) : Int) = (k : Int) + 1 by omega, Int.add_mul, Int.one_mul]
    simp only [d]
    rfl
theorem many_e_yes {c : Col} (hc : okC c = true) {k : Nat} (hk : k ≤ 16) : addE 2 1 1 0 c (manyM c k 1 0) = 0 := by
  unfold addE
  rw [if_neg (by decide), if_neg (by rw [hc]; decide), if_neg (by rw [(many_yes hc k hk).1]; show ¬ ((k : Int) ≥ 65536); omega)]
theorem many_e_no {c : Col} (hc : okC c = false) (k : Nat) : addE 2 1 1 0 c (manyM c k 1 0) = 11 := by
  unfold addE
  rw [if_neg (by decide), if_pos hc]
theorem quo_same {k : Nat} (h0 : 1 ≤ k) {x : Int} (h1 : 0 ≤ x) (h2 : x ≤ 255) : wrap64 (Int.tdiv ((k : Int) * x) (mx (k : Int) 1)) = x := by
  have hm : mx (k : Int) 1 = k := by unfold mx; rw [if_neg (by omega)]
  rw [hm, Int.mul_tdiv_cancel_left _ (by omega)]
  unfold wrap64
  omega
theorem many_col {c : Col} (hc : okC c = true) {k : Nat} (h0 : 1 ≤ k) (hk : k ≤ 16) : colR (manyM c k 1 0) = c.r ∧ colG (manyM c k 1 0) = c.g ∧ colB (manyM c k 1 0) = c.b := by
  have h := okC_no hc
  rw [(many_yes hc k hk).1]
  exact ⟨quo_same h0 h.1 h.2.1, quo_same h0 h.2.2.1 h.2.2.2.1, quo_same h0 h.2.2.2.2.1 h.2.2.2.2.2⟩
theorem zero_col : colR Px.zero = 0 ∧ colG Px.zero = 0 ∧ colB Px.zero = 0 := by
  refine ⟨?_, ?_, ?_⟩ <;> kernel_rfl
theorem i64_and15 (n : Int) : bits .and .i64 n 15 = n % 16 := by
  have h15 : (BitVec.ofInt 64 15).toNat = 2 ^ 4 - 1 := by decide
  have key : (BitVec.ofInt 64 n &&& BitVec.ofInt 64 15).toNat = (n % ((2 ^ 64 : Nat) : Int)).toNat % 2 ^ 4 := by
    rw [BitVec.toNat_and, BitVec.toNat_ofInt, h15, Nat.and_two_pow_sub_one_eq_mod]
  show IntKind.i64.wrap ((BitVec.ofInt 64 n &&& BitVec.ofInt 64 15).toNat : Nat) = n % 16
  rw [key, IntKind.wrap_i64]
  omega
section
variable {a b c a' b' c' : Int}
theorem eq_col (w : World) : (Op.equalIn 10000 33 (.agg #[.int .i64 a, .int .i64 b, .int .i64 c]) (.agg #[.int .i64 a', .int .i64 b', .int .i64 c'])).run Tryd.prog w = .ok ((a == a') && ((b == b') && (c == c'))) w := by
  have hp : Tryd.prog.stoodInHeld 33 = false := by kernel_rfl
  have h3 : ∀ x y : Int, (Op.equalIn 9999 3 (.int .i64 x) (.int .i64 y)).run Tryd.prog w = .ok (x == y) w := fun x y => run_equalIn_int w 9998 3 .i64 .i64 x y Tryd.underlying3
  have pt : ∀ (xs : Array Value) (i : Nat) (v : Value), xs[i]? = some v → (part 3 xs i).run Tryd.prog w = .ok v w := fun xs i v h => by
    simp [part, isAgg, run_underlying Tryd.underlying3, h]
  exact eqA_of (d := 9999) Tryd.underlying33 hp (eqf_cons (by decide) (pt _ 0 _ rfl) (pt _ 0 _ rfl) (h3 _ _) (eqf_cons (by decide) (pt _ 1 _ rfl) (pt _ 1 _ rfl) (h3 _ _) (eqf_last (by decide) (pt _ 2 _ rfl) (pt _ 2 _ rfl) (h3 _ _))))
end
theorem col_same (a b c : Int) : ∀ w, (Op.equalIn 10000 33 (.agg #[.int .i64 a, .int .i64 b, .int .i64 c]) (.agg #[.int .i64 a, .int .i64 b, .int .i64 c])).run Tryd.prog w = .ok true w := fun w => by
  rw [eq_col]
  simp
theorem add1.calls {a mb : Nat} (c : Col) (k : Nat) (w : World) (h : Img w a mb k 2 1 (manyM c k)) (hk : k < 100) (E : Int) (hE : addE 2 1 1 0 c (manyM c k 1 0) = E) :
    Calls Tryd.prog 9 #[.pointer (some ⟨a, 0, none⟩), .int .i64 1, .int .i64 0, .agg #[.int .i64 c.r, .int .i64 c.g, .int .i64 c.b]] w fun e w' => e = .returned (.int .i64 E) ∧ Img w' a mb (k + 1) 2 1 (manyM c (k + 1)) ∧ Added a mb k 2 1 (manyM c k) 1 0 c w w' := by
  refine (add.calls 1 0 c w h (by unfold I64; omega) (by unfold I64; omega) (many_good c k) (by omega)).mono ?_
  rintro e w' ⟨h1, h2⟩
  rw [hE] at h1
  exact ⟨h1, h2.img, h2⟩
theorem at1.calls {a mb n : Nat} {M : Int → Int → Px} (x : Int) (hx : 0 ≤ x ∧ x < 2) (w : World) (h : Img w a mb n 2 1 M) (r g b : Int) (hc : colR (M x 0) = r ∧ colG (M x 0) = g ∧ colB (M x 0) = b) :
    Calls Tryd.prog 11 #[.pointer (some ⟨a, 0, none⟩), .int .i64 x, .int .i64 0] w fun e w' => e = .returned (.tuple #[.agg #[.int .i64 r, .int .i64 g, .int .i64 b], .bool true]) ∧ Below w.heap.size w w' := by
  refine (at.calls x 0 w h (by unfold I64; omega) (by unfold I64; omega)).mono ?_
  rintro e w' ⟨h1, h2⟩
  have hb : hasB 2 1 x 0 = true := decide_eq_true (by omega)
  rw [hb, if_pos rfl, hc.1, hc.2.1, hc.2.2] at h1
  exact ⟨h1, h2⟩
end Go.Proofs.YtibecmeajopmeaaDoor.G
