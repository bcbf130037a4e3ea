/- The document's numerals and text: plain. -/
import Derived.Test.YtibecmeajopmeaaDoorIRefX
import Derived.Test.YtibecmeajopmeaaDoorIText
namespace Go.Proofs.YtibecmeajopmeaaDoor.G
open Go.RowKit Go.Proofs.YtibecmeajopmeaaDoorW.PrintWords Go.Proofs.YtibecmeajopmeaaDoorW.PrintLast Go.Proofs.YtibecmeajopmeaaDoorW.PrintMore
set_option linter.unusedVariables false
set_option linter.unusedSimpArgs false
/-- The digits, the last ahead. -/
def revD (u : Nat) : List Int := ((Lib.decDigits u).reverse).map fun b => (b.toNat : Int)
theorem revD_small {u : Nat} (h : u < 10) : revD u = [48 + (u : Int)] := by
  unfold revD
  rw [Lib.decDigits_one h]
  have : (UInt8.ofNat (48 + u)).toNat = 48 + u := by
    rw [UInt8.toNat_ofNat']
    omega
  simp only [List.reverse_cons, List.reverse_nil, List.nil_append, List.map_cons, List.map_nil, this]
  rw [Int.natCast_add]
  rfl
theorem revD_big {u : Nat} (h : ¬ u < 10) : revD u = (48 + ((u % 10 : Nat) : Int)) :: revD (u / 10) := by
  unfold revD
  rw [Lib.decDigits, dif_neg h, List.reverse_append, List.map_append]
  have : (UInt8.ofNat (48 + u % 10)).toNat = 48 + u % 10 := by
    rw [UInt8.toNat_ofNat']
    omega
  simp only [List.reverse_cons, List.reverse_nil, List.nil_append, List.map_cons, List.map_nil, this, List.cons_append]
  rw [Int.natCast_add]
  rfl
theorem revD_len (u : Nat) : (revD u).length = Lib.nDigits u := by
  unfold revD
  rw [List.length_map, List.length_reverse, Lib.decDigits_length]
theorem dig_eq {u : Nat} (hu : u ≤ 9223372036854775808) : (wrap64 (48 - Int.tmod (-(u : Int)) 10)) % 256 = 48 + ((u % 10 : Nat) : Int) ∧ wrap64 (Int.tdiv (-(u : Int)) 10) = -((u / 10 : Nat) : Int) := by
  have h1 : Int.tmod (-(u : Int)) 10 = -((u % 10 : Nat) : Int) := by
    rw [Int.neg_tmod]
    congr 1
  have h2 : Int.tdiv (-(u : Int)) 10 = -((u / 10 : Nat) : Int) := by
    rw [Int.neg_tdiv]
    congr 1
  rw [h1, h2]
  unfold wrap64
  omega
/-- The sign behind the digits. -/
def sgn (x : Int) : List Int := if x < 0 then [45] else []
theorem show_l0 (x0 : Int) : ∀ (d u k : Nat) (acc : List Int), Lib.nDigits u = d → u ≤ 9223372036854775808 → acc.length + d ≤ 100 → relievoref00_Show.l0 (d + k) x0 (-(u : Int)) acc = relievoref00_Show.j2 k (acc ++ revD u ++ sgn x0)
  | 0, u, k, acc, hd, _, _ => absurd (Lib.nDigits_pos u) (by omega)
  | d + 1, u, k, acc, hd, hu, ha => by
    obtain ⟨e1, e2⟩ := dig_eq hu
    rw [show d + 1 + k = (d + k) + 1 by omega, relievoref00_Show.l0, if_pos (by omega), Option.bind_some, e1, e2]
    by_cases h : u < 10
    · have hd0 : d = 0 := by have := Lib.nDigits_small h; omega
      subst hd0
      rw [if_pos (by omega), Nat.zero_add, revD_small h]
      have e3 : ((u % 10 : Nat) : Int) = u := by omega
      rw [e3]
      unfold sgn
      by_cases hx : x0 < 0
      · rw [if_pos hx, if_pos hx, if_pos (by rw [List.length_append, List.length_singleton]; omega)]
      · rw [if_neg hx, if_neg hx, List.append_nil]
    · have hd1 : Lib.nDigits (u / 10) = d := by have := Lib.nDigits_big h; omega
      rw [if_neg (by omega), show_l0 x0 d (u / 10) k _ hd1 (by omega) (by rw [List.length_append, List.length_singleton]; omega), revD_big h]
      simp
theorem show_l1 (x4 : List Int) (hl : x4.length ≤ 1000) : ∀ (n k : Nat) (x5 : List Int), n ≤ x4.length → x5.length + n ≤ 1000 → relievoref00_Show.l1 (n + 1 + k) x4 x5 ((n : Int) - 1) = some (strOfNums (x5 ++ (x4.take n).reverse))
  | 0, k, x5, _, _ => by
    rw [show 0 + 1 + k = k + 1 by omega, relievoref00_Show.l1, if_neg (by omega)]
    simp
  | n + 1, k, x5, h1, h2 => by
    rw [show n + 1 + 1 + k = (n + 1 + k) + 1 by omega, relievoref00_Show.l1, if_pos (by omega), if_pos (by omega), if_pos (by omega), if_pos (by omega)]
    have e1 : wrap64 (((n + 1 : Nat) : Int) - 1 - 1) = (n : Int) - 1 := by unfold wrap64; omega
    have e2 : rd x4 (((n + 1 : Nat) : Int) - 1) = x4[n] := by
      have : (((n + 1 : Nat) : Int) - 1).toNat = n := by omega
      unfold rd
      rw [this, List.getD_eq_getElem?_getD, List.getElem?_eq_getElem (by omega)]
      rfl
    rw [e1, e2, show_l1 x4 hl n k _ (by omega) (by rw [List.length_append, List.length_singleton]; omega)]
    rw [List.take_add_one, List.getElem?_eq_getElem (by omega), Option.toList_some, List.reverse_append]
    simp
theorem num_back (l : List UInt8) : strOfNums (l.map fun b => (b.toNat : Int)) = ⟨l.toArray⟩ := by
  unfold strOfNums
  rw [List.map_map]
  congr 2
  have : ((fun n : Int => UInt8.ofNat n.toNat) ∘ fun b : UInt8 => (b.toNat : Int)) = id := by
    funext b
    simp
  rw [this, List.map_id]
theorem show_eq {n : Int} (hn : I64 n) {k : Nat} (hk : 60 ≤ k) : relievoref00_Show.f k n = some ⟨(Lib.itoa n).toArray⟩ := by
  obtain ⟨h0, h1⟩ := hn
  obtain ⟨u, hu, hx⟩ : ∃ u : Nat, u ≤ 9223372036854775808 ∧ relievoref00_Show.f k n = relievoref00_Show.j0 k n (-(u : Int)) ∧ Lib.itoa n = (sgn n).reverse.map (fun z => UInt8.ofNat z.toNat) ++ Lib.decDigits u := by
    refine ⟨n.natAbs, by omega, ?_, ?_⟩
    · unfold relievoref00_Show.f
      by_cases h : n > 0
      · rw [if_pos h]
        congr 1
        unfold wrap64
        omega
      · rw [if_neg h]
        congr 1
        omega
    · unfold Lib.itoa sgn
      by_cases h : n < 0
      · rw [if_pos h, if_pos h]
        simp
      · rw [if_neg h, if_neg h]
        have : n.toNat = n.natAbs := by omega
        rw [this]
        simp
  obtain ⟨hx, hi⟩ := hx
  have hd : Lib.nDigits u ≤ 21 := by
    have h2 := Lib.itoa_length_le n h0 h1
    rw [hi, List.length_append, Lib.decDigits_length] at h2
    omega
  have hs : (sgn n).length ≤ 1 := by unfold sgn; split <;> simp
  have hR : (revD u ++ sgn n).length = Lib.nDigits u + (sgn n).length := by rw [List.length_append, revD_len]
  obtain ⟨q, rfl⟩ : ∃ q, k = ((Lib.nDigits u + (((revD u ++ sgn n).length + 1 + q) + 1))) + 1 := ⟨k - ((Lib.nDigits u + (((revD u ++ sgn n).length + 1) + 1))) - 1, by omega⟩
  rw [hx, relievoref00_Show.j0, show_l0 n _ u _ [] rfl hu (by simp; omega), List.nil_append, relievoref00_Show.j2]
  have e1 : wrap64 (((revD u ++ sgn n).length : Int) - 1) = ((revD u ++ sgn n).length : Int) - 1 := by unfold wrap64; omega
  rw [e1, show_l1 _ (by omega) _ q [] (Nat.le_refl _) (by simp only [List.length_nil]; omega), List.take_length, List.nil_append, List.reverse_append, hi]
  congr 1
  have e2 : (sgn n).reverse ++ (revD u).reverse = ((sgn n).reverse.map (fun z => UInt8.ofNat z.toNat) ++ Lib.decDigits u).map fun b => (b.toNat : Int) := by
    rw [List.map_append]
    congr 1
    · unfold sgn
      split <;> simp
    · unfold revD
      rw [← List.map_reverse, List.reverse_reverse]
  rw [e2, num_back]
/-- A text of bytes. -/
def mkB (l : List UInt8) : ByteArray := ⟨l.toArray⟩
theorem mkB_append (l m : List UInt8) : mkB l ++ mkB m = mkB (l ++ m) := by
  apply ByteArray.ext
  rw [ByteArray.data_append]
  simp [mkB]
theorem mkB_size (l : List UInt8) : (mkB l).size = l.length := by simp [mkB, ByteArray.size]
theorem show_mk {n : Int} (hn : I64 n) {k : Nat} (hk : 60 ≤ k) : relievoref00_Show.f k n = some (mkB (Lib.itoa n)) := show_eq hn hk
def I64c (c : S33) : Prop := I64 c.f0 ∧ I64 c.f1 ∧ I64 c.f2
def lineC (c : S33) : List UInt8 := lineB [c.f0, c.f1, c.f2]
def linesC : List S33 → List UInt8
  | [] => []
  | c :: l => lineC c ++ linesC l
theorem lineC_eq (c : S33) : lineC c = Lib.itoa c.f0 ++ [32] ++ Lib.itoa c.f1 ++ [32] ++ Lib.itoa c.f2 ++ [10] := by
  unfold lineC lineB
  show lineTo _ 3 ++ [10] = _
  simp [lineTo, rd]
theorem linesC_append (l m : List S33) : linesC (l ++ m) = linesC l ++ linesC m := by
  induction l with
  | nil => rfl
  | cons c l ih => rw [List.cons_append, linesC, linesC, ih, List.append_assoc]
theorem itoa_le {n : Int} (h : I64 n) : (Lib.itoa n).length ≤ 21 := Lib.itoa_length_le n h.1 h.2
theorem text_l0 (l : List S33) (hi : ∀ c ∈ l, I64c c) (hl : l.length ≤ 100000) : ∀ (n i k : Nat) (acc : List UInt8), i + n = l.length → n + 61 ≤ k → acc.length + 100 * n ≤ 1000000000 → relievoref22_Text.l0 k l (mkB acc) (i : Int) = some (mkB (acc ++ linesC (l.drop i)))
  | 0, i, k, acc, h1, h2, _ => by
    obtain ⟨q, rfl⟩ : ∃ q, k = q + 1 := ⟨k - 1, by omega⟩
    rw [relievoref22_Text.l0, if_neg (by omega), List.drop_of_length_le (by omega)]
    simp [linesC]
  | n + 1, i, k, acc, h1, h2, h3 => by
    obtain ⟨q, rfl⟩ : ∃ q, k = q + 1 := ⟨k - 1, by omega⟩
    have hlt : i < l.length := by omega
    obtain ⟨c, hc⟩ : ∃ c, l[i] = c := ⟨_, rfl⟩
    have er : rd_T33 l (i : Int) = c := by
      show l.getD (i : Int).toNat z33 = c
      rw [Int.toNat_natCast, List.getD_eq_getElem?_getD, List.getElem?_eq_getElem hlt, ← hc]
      rfl
    obtain ⟨i0, i1, i2⟩ := hi c (by rw [← hc]; exact List.getElem_mem _)
    have b0 := itoa_le i0
    have b1 := itoa_le i1
    have b2 := itoa_le i2
    have s1 : (⟨#[32]⟩ : ByteArray) = mkB [32] := rfl
    have s2 : (⟨#[10]⟩ : ByteArray) = mkB [10] := rfl
    rw [relievoref22_Text.l0, if_pos (by omega), if_pos (by omega), er, s1, s2, show_mk i0 (by omega), Option.bind_some]
    rw [if_pos (by rw [mkB_size]; omega), show_mk i1 (by omega), Option.bind_some, mkB_append]
    rw [if_pos (by rw [mkB_size, mkB_size]; simp only [List.length_append, List.length_singleton]; omega), mkB_append]
    rw [if_pos (by rw [mkB_size]; simp only [List.length_append, List.length_singleton]; omega), show_mk i2 (by omega), Option.bind_some, mkB_append]
    rw [if_pos (by rw [mkB_size, mkB_size]; simp only [List.length_append, List.length_singleton]; omega), mkB_append]
    rw [if_pos (by rw [mkB_size]; simp only [List.length_append, List.length_singleton]; omega), mkB_append]
    rw [if_pos (by rw [mkB_size, mkB_size]; simp only [List.length_append, List.length_singleton]; omega), mkB_append]
    have ew : wrap64 ((i : Int) + 1) = ((i + 1 : Nat) : Int) := by unfold wrap64; omega
    rw [ew, text_l0 l hi hl n (i + 1) q _ (by omega) (by omega) (by simp only [List.length_append, List.length_singleton]; omega)]
    rw [List.drop_eq_getElem_cons hlt, hc, linesC, lineC_eq, List.append_assoc]
def headC (W H : Nat) : List UInt8 := [80, 51, 10] ++ Lib.itoa (W : Int) ++ [32] ++ Lib.itoa (H : Int) ++ [10, 50, 53, 53, 10]
theorem head_eq (W H : Nat) : headC W H = headB W H := by
  have e : Lib.itoa 255 = [50, 53, 53] := by
    show Lib.itoa ((255 : Nat) : Int) = _
    rw [Lib.itoa_nonneg, Lib.decDigits, dif_neg (by decide), Lib.decDigits_two (by decide) (by decide)]
    decide
  unfold headC headB lineB
  show _ = [80, 51, 10] ++ (lineTo [(W : Int), (H : Int)] 2 ++ [10]) ++ (lineTo [255] 1 ++ [10])
  simp [lineTo, rd, e]
theorem text_f {W H : Nat} (hW : W ≤ 64) (hH : H ≤ 64) (l : List S33) (hi : ∀ c ∈ l, I64c c) (hl : l.length ≤ 10000) : relievoref22_Text.f 20000 (W : Int) (H : Int) l = some (mkB (headB W H ++ linesC l)) := by
  have iW : I64 (W : Int) := ⟨by omega, by omega⟩
  have iH : I64 (H : Int) := ⟨by omega, by omega⟩
  have b0 := itoa_le iW
  have b1 := itoa_le iH
  have s1 : (⟨#[32]⟩ : ByteArray) = mkB [32] := rfl
  have s2 : (⟨#[80, 51, 10]⟩ : ByteArray) = mkB [80, 51, 10] := rfl
  have s3 : (⟨#[10, 50, 53, 53, 10]⟩ : ByteArray) = mkB [10, 50, 53, 53, 10] := rfl
  unfold relievoref22_Text.f
  rw [s1, s2, s3, show_mk iW (by omega), Option.bind_some]
  rw [if_pos (by rw [mkB_size]; omega), mkB_append]
  rw [if_pos (by rw [mkB_size]; simp only [List.length_append, List.length_cons, List.length_nil]; omega), show_mk iH (by omega), Option.bind_some, mkB_append]
  rw [if_pos (by rw [mkB_size, mkB_size]; simp only [List.length_append, List.length_cons, List.length_nil]; omega), mkB_append]
  rw [if_pos (by rw [mkB_size]; simp only [List.length_append, List.length_cons, List.length_nil]; omega), mkB_append]
  have := text_l0 l hi (by omega) l.length 0 20000 ([80, 51, 10] ++ Lib.itoa (W : Int) ++ [32] ++ Lib.itoa (H : Int) ++ [10, 50, 53, 53, 10]) (by omega) (by omega) (by simp only [List.length_append, List.length_cons, List.length_nil]; omega)
  rw [show ((0 : Nat) : Int) = 0 from rfl] at this
  rw [this, List.drop_zero, ← head_eq]
  rfl
/-- The colours of a row, of the rows. -/
def colC (p : Px) : S33 := ⟨colR p, colG p, colB p⟩
def rowC (M : Int → Int → Px) (j : Nat) : Nat → List S33
  | 0 => []
  | i + 1 => rowC M j i ++ [colC (M i j)]
def allC (M : Int → Int → Px) (W : Nat) : Nat → List S33
  | 0 => []
  | j + 1 => allC M W j ++ rowC M j W
theorem rowC_lines (M : Int → Int → Px) (j : Nat) : ∀ i, linesC (rowC M j i) = rowTo M j i
  | 0 => rfl
  | i + 1 => by
    rw [rowC, rowTo, linesC_append, rowC_lines M j i]
    simp [linesC, lineC, colC, pixB]
theorem allC_lines (M : Int → Int → Px) (W : Nat) : ∀ j, linesC (allC M W j) = allTo M W j
  | 0 => rfl
  | j + 1 => by rw [allC, allTo, linesC_append, allC_lines M W j, rowC_lines]
theorem rowC_len (M : Int → Int → Px) (j : Nat) : ∀ i, (rowC M j i).length = i
  | 0 => rfl
  | i + 1 => by rw [rowC, List.length_append, rowC_len M j i]; rfl
theorem allC_len (M : Int → Int → Px) (W : Nat) : ∀ j, (allC M W j).length = W * j
  | 0 => rfl
  | j + 1 => by rw [allC, List.length_append, allC_len M W j, rowC_len, Nat.mul_succ]
theorem colC_i64 (p : Px) : I64c (colC p) := ⟨wrap_i64 _, wrap_i64 _, wrap_i64 _⟩
theorem rowC_i64 (M : Int → Int → Px) (j : Nat) : ∀ i, ∀ c ∈ rowC M j i, I64c c
  | 0 => fun c h => absurd h (by simp [rowC])
  | i + 1 => fun c h => by
    rw [rowC, List.mem_append, List.mem_singleton] at h
    rcases h with h | rfl
    · exact rowC_i64 M j i c h
    · exact colC_i64 _
theorem allC_i64 (M : Int → Int → Px) (W : Nat) : ∀ j, ∀ c ∈ allC M W j, I64c c
  | 0 => fun c h => absurd h (by simp [allC])
  | j + 1 => fun c h => by
    rw [allC, List.mem_append] at h
    rcases h with h | h
    · exact allC_i64 M W j c h
    · exact rowC_i64 M j W c h
theorem text_all {W H : Nat} (hW : W ≤ 64) (hH : H ≤ 64) (M : Int → Int → Px) : relievoref22_Text.f 20000 (W : Int) (H : Int) (allC M W H) = some ⟨(textB W H M).toArray⟩ := by
  have hl : (allC M W H).length ≤ 10000 := by
    rw [allC_len]
    have := Nat.mul_le_mul hW hH
    omega
  rw [text_f hW hH _ (allC_i64 M W H) hl, allC_lines]
  rfl
end Go.Proofs.YtibecmeajopmeaaDoor.G
