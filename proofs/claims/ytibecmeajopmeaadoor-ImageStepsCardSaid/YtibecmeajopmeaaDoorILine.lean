/- A line of numbers is written: the closure of Text. -/
import Derived.Test.YtibecmeajopmeaaDoorIBuf
import Derived.Lib.ItoaLen
import Derived.Lib.AppendIntMem
namespace Go.Proofs.YtibecmeajopmeaaDoor.G
open Go.RowKit Go.Shelf Go.Proofs.YtibecmeajopmeaaDoorW.PrintWords Go.Proofs.YtibecmeajopmeaaDoorW.PrintLast Go.Proofs.YtibecmeajopmeaaDoorW.PrintMore
set_option linter.unusedVariables false
set_option linter.unusedSimpArgs false
/-- The powers of ten lie where the program lays them. -/
def Pow (w : World) : Prop := Lib.TabBelow Tryd.prog w.heap.size w "internal/strconv.uint64pow10" .u64 Lib.pow10Tab
/-- A builder that holds these bytes. -/
def Bld (B b : Nat) (l : List UInt8) (w : World) : Prop := Lib.IsBuilderF 58 5 B b (Lib.byteCells l) w
theorem others_of_below {e : TypeId} {b : Option Nat} {w w1 : World} (h : Below w.heap.size w w1) : Lib.OthersKept e b w w1 := fun k o hk _ _ => by
  rw [h.block k (Array.getElem?_eq_some_iff.1 hk).1]
  exact hk
theorem Bld.below {B b : Nat} {l : List UInt8} {w w1 : World} (h : Bld B b l w) (hb : Below w.heap.size w w1) : Bld B b l w1 := by
  have at_ : ∀ {p : Value}, Lib.BuilderAtF 58 5 B b p (Lib.byteCells l) w → Lib.BuilderAtF 58 5 B b p (Lib.byteCells l) w1 := fun {p} ⟨h1, v, h2, ⟨h3, h4⟩, h5⟩ => by
    refine ⟨h1, v, (hb.block b (Array.getElem?_eq_some_iff.1 h2).1).trans h2, ⟨h3, ?_⟩, h5⟩
    rcases h4 with x | ⟨g, cap, cur, fz, e1, e2, e3, r⟩
    · exact .inl x
    · exact .inr ⟨g, cap, cur, fz, e1, e2, (hb.block g (Array.getElem?_eq_some_iff.1 e3).1).trans e3, r⟩
  exact h.imp at_ at_
theorem Bld.lt {B b : Nat} {l : List UInt8} {w : World} (h : Bld B b l w) : B ≤ b ∧ b < w.heap.size := by
  rcases h with ⟨h1, v, h2, _⟩ | ⟨h1, v, h2, _⟩
  · exact ⟨h1, (Array.getElem?_eq_some_iff.1 h2).1⟩
  · exact ⟨h1, (Array.getElem?_eq_some_iff.1 h2).1⟩
theorem below_grow {w : World} (k : Nat) (os : Array Obj) : Below w.heap.size w (Go.Sort.grow (w.drewN k) os) := by
  have h1 : Below w.heap.size w (w.drewN k) := pw_below_drewN (Below.refl _ _) k
  have hs : (w.drewN k).heap.size = w.heap.size := by
    induction k with
    | zero => rfl
    | succ k ih => exact ih (pw_below_drewN (Below.refl _ _) k)
  refine ⟨h1.os, h1.tape, h1.output, ?_, fun i hi => ?_⟩
  · show _ ≤ ((w.drewN k).heap ++ os).size
    rw [Array.size_append]
    omega
  · show ((w.drewN k).heap ++ os)[i]? = _
    rw [Array.getElem?_append_left (by omega)]
    exact h1.block i hi
/-- What is behind a call that writes into the builder alone. -/
structure Wrote (B b : Nat) (l : List UInt8) (w w' : World) : Prop where
  bld : Bld B b l w'
  below : Below B w w'
  kept : Lib.OthersKept 5 (some b) w w'
theorem Wrote.then {B b : Nat} {l m : List UInt8} {w w1 w2 : World} (h : Wrote B b l w w1) (k : Wrote B b m w1 w2) : Wrote B b m w w2 := ⟨k.bld, h.below.trans k.below, h.kept.trans k.kept⟩
theorem Wrote.next {B b : Nat} {l : List UInt8} {w w1 w2 : World} (h : Wrote B b l w w1) (k : Below w1.heap.size w1 w2) (hB : B ≤ w1.heap.size) : Wrote B b l w w2 := ⟨h.bld.below k, h.below.trans (k.mono hB), h.kept.trans (others_of_below k)⟩
theorem wByte {B b : Nat} {l : List UInt8} {w : World} (h : Bld B b l w) (c : UInt8) (hl : l.length ≤ 100000000000000) (hB : B ≤ w.heap.size) :
    Calls Tryd.prog 19 #[.pointer (some ⟨b, 0, none⟩), .int .u8 c.toNat] w fun e w' => e = .returned .nilIface ∧ Wrote B b (l ++ [c]) w w' := by
  refine (writeByte B b _ c.toNat w h (by rw [Lib.byteCells_length]; omega) hB).mono ?_
  rintro e w' ⟨rfl, h1, h2, h3⟩
  refine ⟨rfl, ?_, h2, h3⟩
  show Lib.IsBuilderF 58 5 B b (Lib.byteCells (l ++ [c])) w'
  rw [Lib.byteCells_append]
  exact h1
theorem wSpace {B b : Nat} {l : List UInt8} {w : World} (h : Bld B b l w) (hl : l.length ≤ 100000000000000) (hB : B ≤ w.heap.size) :
    Calls Tryd.prog 19 #[.pointer (some ⟨b, 0, none⟩), .int .u8 32] w fun e w' => e = .returned .nilIface ∧ Wrote B b (l ++ [32]) w w' := wByte h 32 hl hB
theorem wLine {B b : Nat} {l : List UInt8} {w : World} (h : Bld B b l w) (hl : l.length ≤ 100000000000000) (hB : B ≤ w.heap.size) :
    Calls Tryd.prog 19 #[.pointer (some ⟨b, 0, none⟩), .int .u8 10] w fun e w' => e = .returned .nilIface ∧ Wrote B b (l ++ [10]) w w' := wByte h 10 hl hB
theorem wStr {B b : Nat} {l : List UInt8} {w : World} (h : Bld B b l w) (s : List UInt8) (hl : l.length + s.length ≤ 100000000000000) (hB : B ≤ w.heap.size) :
    Calls Tryd.prog 20 #[.pointer (some ⟨b, 0, none⟩), .string ⟨s.toArray⟩] w fun e w' => e = .returned (.tuple #[.int .i64 s.length, .nilIface]) ∧ Wrote B b (l ++ s) w w' := by
  have hs : (⟨s.toArray⟩ : ByteArray).size = s.length := rfl
  refine (writeString B b _ ⟨s.toArray⟩ w h (by rw [Lib.byteCells_length, hs]; omega) hB).mono ?_
  rintro e w' ⟨rfl, h1, h2, h3⟩
  refine ⟨rfl, ?_, h2, h3⟩
  show Lib.IsBuilderF 58 5 B b (Lib.byteCells (l ++ s)) w'
  rw [Lib.byteCells_append, ← Lib.strCells_toArray]
  exact h1
/-- The first j of these numbers, a blank between two. -/
def lineTo (l : List Int) : Nat → List UInt8
  | 0 => []
  | j + 1 => lineTo l j ++ ((if j = 0 then [] else [32]) ++ Lib.itoa (rd l j))
def lineB (l : List Int) : List UInt8 := lineTo l l.length ++ [10]
def I64l (l : List Int) : Prop := ∀ x ∈ l, -9223372036854775808 ≤ x ∧ x ≤ 9223372036854775807
theorem rd_memI {l : List Int} {j : Nat} (h : j < l.length) : rd l (j : Int) ∈ l := by
  show l.getD (j : Int).toNat 0 ∈ l
  rw [Int.toNat_natCast, List.getD_eq_getElem?_getD, List.getElem?_eq_getElem h]
  exact List.getElem_mem _
theorem lineTo_le {l : List Int} (h : I64l l) : ∀ j, j ≤ l.length → (lineTo l j).length ≤ 22 * j
  | 0, _ => Nat.le_refl _
  | j + 1, hj => by
    have h1 := lineTo_le h j (by omega)
    have h2 := h _ (rd_memI (show j < l.length by omega))
    have h3 := Lib.itoa_length_le _ h2.1 h2.2
    rw [lineTo, List.length_append, List.length_append]
    have : (if j = 0 then ([] : List UInt8) else [32]).length ≤ 1 := by split <;> simp
    omega
set_option maxHeartbeats 4000000 in
set_option maxRecDepth 100000 in
theorem line.calls {w0 w : World} (B b g c : Nat) (bs : List UInt8) (l : List Int) (hP : Pow w0) (hW : Below w0.heap.size w0 w) (hw0 : w0.heap.size ≤ B) (h : Bld B b bs w) (hg : w.heap[g]? = some (.cells (l.map (Value.int .i64)).toArray 3 (0, 0))) (hgb : g ≠ b) (hI : I64l l) (hl : l.length ≤ 100) (hbs : bs.length ≤ 10000000000000) (hB : B ≤ w.heap.size) :
    Calls Tryd.prog 18 #[.slice (some ⟨g, 0, none⟩) l.length c, .pointer (some ⟨b, 0, none⟩)] w fun e w' => e = .returned (.tuple #[]) ∧ Wrote B b (bs ++ lineB l) w w' := by
  have HG := Aside0.mk hg
  have HGB := Aside0.mk hgb
  have HP := Aside0.mk hP
  have HW := Aside0.mk hW
  have HI := Aside0.mk hI
  have HH := Aside0.mk h
  have HB := Aside0.mk hB
  have HW0 := Aside0.mk hw0
  have HBS := Aside0.mk hbs
  have hl1 : (l.length : Int) ≤ 100 := by omega
  clear hg hgb hP hW hI h hB hw0 hbs
  go_enter Tryd.func18, Tryd.ntmps18
  go_wp2
  go_loopg [7] l.length (fun kq v7 w' => ∃ j : Nat, v7 = .int .i64 j ∧ ∃ W, W = w' ∧ Aside0 (j + kq = l.length) ∧ Aside0 (Wrote B b (bs ++ lineTo l j) w W))
  case atStart => exact ⟨0, rfl, _, rfl, ⟨by omega⟩, ⟨by simpa [lineTo] using HH.out, Below.refl _ _, Lib.OthersKept.refl _ _ _⟩⟩
  case round =>
    obtain ⟨j, rfl, W, rfl, HJ, HR⟩ := hrel
    have hj := HJ.out
    have HBW : Aside0 (B ≤ W.heap.size) := ⟨Nat.le_trans HB.out HR.out.below.size⟩
    have HL : Aside0 ((bs ++ lineTo l j).length ≤ 10000000002200) := ⟨by
      have := lineTo_le HI.out j (by omega)
      have := HBS.out
      rw [List.length_append]
      omega⟩
    by_cases hlt : j < l.length
    · have c1 : decide ((j : Int) < (l.length : Int)) = true := decide_eq_true (by omega)
      have j0 : 0 ≤ (j : Int) := by omega
      have j1 : (j : Int) < (l.length : Int) := by omega
      have hx : W.cell? ⟨g, j, none⟩ = some (.int .i64 (rd l (j : Int))) := by
        have hgW := HR.out.kept g _ HG.out (fun e => HGB.out (by injection e)) (fun c fz e => by
          injection e with _ e _
          exact absurd e (by decide))
        rw [blk_cell hgW j]
        show ((l.map (Value.int .i64)).toArray)[j]? = _
        simp [rd, hlt]
      have hr := HI.out _ (rd_memI hlt)
      have HRR := Aside0.mk hr
      have hst : bs ++ lineTo l (j + 1) = bs ++ lineTo l j ++ (if j = 0 then [] else [32]) ++ Lib.itoa (rd l (j : Int)) := by
        rw [lineTo]
        simp
      have HST := Aside0.mk hst
      have HIT := Aside0.mk (Lib.itoa_length_le _ hr.1 hr.2)
      clear hst hr
      generalize rd l (j : Int) = x at *
      generalize bs ++ lineTo l j = acc at *
      cases gk with
      | zero => omega
      | succ k1 =>
      have IT : ∀ W', Wrote B b acc w W' ∨ Wrote B b (acc ++ [32]) w W' → Calls Tryd.prog 21 #[.int .i64 x] W' (fun e w' => e = .returned (.string ⟨(Lib.itoa x).toArray⟩) ∧ Below W'.heap.size W' w') := fun W' hw => by
        have hb : Below w0.heap.size w0 W' := by
          rcases hw with z | z
          · exact HW.out.trans (z.below.mono HW0.out)
          · exact HW.out.trans (z.below.mono HW0.out)
        refine (Tryd.strconv_Itoa x HRR.out.1 HRR.out.2 W' (HP.out W' hb)).mono ?_
        rintro e w' ⟨rfl, k, os, rfl⟩
        exact ⟨rfl, below_grow k os⟩
      by_cases j00 : j = 0
      · subst j00
        have c2 : decide (((0 : Nat) : Int) > 0) = false := by decide
        rw [if_pos rfl, List.append_nil] at HST
        go_wp2_with (first
         | (go_at_call 21; (with_reducible refine (IT _ (.inl HR.out)).mono ?_); rintro e w4 ⟨rfl, hb⟩; have HR4 := Aside0.mk (HR.out.next hb HBW.out); have HB4 := Aside0.mk (Nat.le_trans HBW.out hb.size); clear hb)
         | (go_at_call 20; (with_reducible refine (wStr HR4.out.bld (Lib.itoa x) (by have := HL.out; have := HIT.out; omega) HB4.out).mono ?_); rintro e w5 ⟨rfl, hq⟩; have HR5 := Aside0.mk (HR4.out.then hq); clear hq))
        go_roundg k1
        case measure => omega
        case rel => exact ⟨0 + 1, by simp, _, rfl, ⟨by omega⟩, ⟨by rw [HST.out]; exact HR5.out⟩⟩
      · have c2 : decide ((j : Int) > 0) = true := decide_eq_true (by omega)
        rw [if_neg j00] at HST
        go_wp2_with (first
         | (go_at_call 19; (with_reducible refine (wSpace HR.out.bld (by have := HL.out; omega) HBW.out).mono ?_); rintro e w3 ⟨rfl, hq⟩; have HR3 := Aside0.mk (HR.out.then hq); have HB3 := Aside0.mk (Nat.le_trans HBW.out hq.below.size); clear hq)
         | (go_at_call 21; (with_reducible refine (IT _ (.inr HR3.out)).mono ?_); rintro e w4 ⟨rfl, hb⟩; have HR4 := Aside0.mk (HR3.out.next hb HB3.out); have HB4 := Aside0.mk (Nat.le_trans HB3.out hb.size); clear hb)
         | (go_at_call 20; (with_reducible refine (wStr HR4.out.bld (Lib.itoa x) (by have := HL.out; have := HIT.out; rw [List.length_append, List.length_singleton]; omega) HB4.out).mono ?_); rintro e w5 ⟨rfl, hq⟩; have HR5 := Aside0.mk (HR4.out.then hq); clear hq))
        go_roundg k1
        case measure => omega
        case rel => exact ⟨j + 1, by simp, _, rfl, ⟨by omega⟩, ⟨by rw [HST.out]; exact HR5.out⟩⟩
    · have c1 : decide ((j : Int) < (l.length : Int)) = false := decide_eq_false (by omega)
      have HE : Aside0 (bs ++ lineB l = bs ++ lineTo l j ++ [10]) := ⟨by unfold lineB; rw [show j = l.length by omega, List.append_assoc]⟩
      go_wp2_with (go_at_call 19; (with_reducible refine (wLine HR.out.bld (by have := HL.out; omega) HBW.out).mono ?_); rintro e w3 ⟨rfl, hq⟩; have HR3 := Aside0.mk (HR.out.then hq); clear hq)
      refine bodyPost_end (v := .tuple #[]) (by simp [results, Tryd.results18, go_sem]) rfl ?_
      exact ⟨rfl, by rw [HE.out]; exact HR3.out⟩
end Go.Proofs.YtibecmeajopmeaaDoor.G
