/- Get of what is not kept and cannot be made. -/
import Derived.Test.YtfhjdhhflpekiaaCHit
namespace Go.Proofs.Ytfhjdhhflpekiaa.G
open Go.RowKit Go.Proofs.Cache Go.Proofs.YtfhjdhhflpekiaaW.PrintWords Go.Proofs.YtfhjdhhflpekiaaW.PrintLast Go.Proofs.YtfhjdhhflpekiaaW.PrintMore
set_option linter.unusedVariables false
set_option linter.unusedSimpArgs false
def GetBad (B : Bd) (sizes : List Int) (i : Int) (w : World) (s : Cs) (x : Ending) (w' : World) : Prop :=
  x = .returned (.tuple #[.agg #[.slice none 0 0, .slice none 0 0, .slice none 0 0], .agg #[.slice none 0 0, .slice none 0 0], .int .i64 20]) ∧ ∃ s', s'.p = getP sizes s.p i ∧ Left B sizes NoX w s w' s'
theorem rd_getD (l : List Int) (i : Int) : rd l i = l.getD i.toNat 0 := rfl
theorem make_bad {B : Bd} {sizes : List Int} {mb : Nat} {i : Int} {w : World} (h : MadeAt B sizes w mb) (hb : badI sizes i = true) : Calls Try.prog 50 #[.pointer (some ⟨mb, 0, none⟩), .int .i64 i] w (MakeBad w) := by
  unfold badI at hb
  by_cases c1 : i < 0
  · exact makeNeg.calls mb i w c1
  · by_cases c2 : (sizes.length : Int) ≤ i
    · exact makeFar.calls B sizes mb i w h (by omega) c2
    · have c3 : sizes.getD i.toNat 0 < 0 := by simpa [c1, c2] using hb
      exact makeLess.calls B sizes mb i w h (by omega) (by omega) _ rfl c3
theorem make_good {B : Bd} {sizes : List Int} {mb : Nat} {i : Int} {w : World} (h : MadeAt B sizes w mb) (hb : badI sizes i = false) (hs : ∀ x ∈ sizes, x ≤ 1000) (hN : ∀ k, B.N k → k < w.heap.size) : Calls Try.prog 50 #[.pointer (some ⟨mb, 0, none⟩), .int .i64 i] w (MakeGood B i (sizeI sizes i) w) := by
  unfold badI at hb
  simp only [Bool.or_eq_false_iff, decide_eq_false_iff_not] at hb
  obtain ⟨⟨c1, c2⟩, c3⟩ := hb
  have hm : sizes.getD i.toNat 0 ∈ sizes := by
    rw [List.getD_eq_getElem?_getD, List.getElem?_eq_getElem (by omega)]
    exact List.getElem_mem _
  have := hs _ hm
  refine makeGood.calls B sizes mb i w h (by omega) (by omega) _ ?_ ?_ hN
  · show sizes.getD i.toNat 0 = ((sizes.getD i.toNat 0).toNat : Int)
    omega
  · unfold sizeI
    omega
theorem find_none {l : List Ke} {i : Int} (h : ¬ findI l i < l.length) : ∀ j, j < l.length → ((l.getD j ⟨0, 0, 0⟩).i == i) = false := fun j hj => find_lt (by omega)
theorem make_found (mb : Nat) : ∀ w, Sem.run Try.prog (method 199 28 (.pointer (some ⟨mb, 0, none⟩)) "Make") w = .ok (50, .pointer (some ⟨mb, 0, none⟩)) w := fun w => by kernel_rfl
theorem Left.row {B : Bd} {sizes : List Int} {X : Nat → Prop} {w W w1 : World} {s s1 : Cs} {g : Nat} {old : Array Value} {t : TypeId} (l : Left B sizes X w s W s1) (hg : W.heap[g]? = some (.cells old t (0, 0))) (ht : t = 40 ∨ t = 43 ∨ t = 32) (e : w.heap.size ≤ g) (hB : B ≤ w.heap.size)
    (hb : Below B W w1) (hk : ∀ k, k ≠ g → w1.heap[k]? = W.heap[k]?) : Left B sizes X w s w1 s1 :=
  l.poke hb (D := fun k => k = g) hk fun k q => by subst q; exact ⟨e, Nat.le_trans hB e, _, _, hg, ht⟩
theorem Left.next {B : Bd} {sizes : List Int} {w W w1 : World} {s s1 : Cs} (l : Left B sizes NoX w s W s1) (hb : Below W.heap.size W w1) : Left B sizes NoX w s w1 s1 := l.trans (Left.of_below l.at_ hb)
theorem Left.fresh {B : Bd} {sizes : List Int} {w W : World} {s s1 : Cs} {g : Nat} (l : Left B sizes NoX w s W s1) (hg : g = W.heap.size) : w.heap.size ≤ g := by rw [hg]; exact l.frame.below.size
set_option maxHeartbeats 2000000 in
set_option maxRecDepth 100000 in
theorem getBad.calls (B : Bd) (sizes : List Int) (s : Cs) (i : Int) (w : World) (h : CacheAt B sizes w s) (hi : Inv sizes s.p) (hn : s.p.now ≤ 1000000) (hj : ¬ findI s.p.kept i < s.p.kept.length) (hbad : badI sizes i = true) :
    Calls Try.prog 13 #[.pointer (some ⟨s.g, 0, none⟩), .int .i64 i] w (GetBad B sizes i w s) := by
  have hu40 := Try.underlying40
  have hu43 := Try.underlying43
  have HB := Aside0.mk (Below.refl w.heap.size w)
  obtain ⟨A, c, ek, hc, hm, hg⟩ := kv_open h.kv
  have HG : Aside0 (∀ w1 s1, CacheAt B sizes w1 s1 → s1.kv = s.kv → s1.ents = s.ents → ∀ j, j < s.ents.length → ∃ g, A = some ⟨g, 0, none⟩ ∧ w1.cell? ⟨g, j, none⟩ = some (.pointer (some ⟨(s.ents.getD j dE).b, 0, none⟩))) := ⟨fun w1 s1 h1 e1 e2 => by
    have := h1.kv
    rw [e1, e2, ek] at this
    exact kv_same this⟩
  have hlen : s.p.kept.length = s.ents.length := by rw [h.kept, List.length_map]
  have HF : Aside0 (∀ j, j < s.ents.length → ((s.ents.getD j dE).m.i == i) = false) := ⟨fun j hlt => by
    have h1 := find_none hj j (by omega)
    rw [h.kept, kept_get hlt] at h1
    exact h1⟩
  have HP : Aside0 (getP sizes s.p i = nowP s.p) := ⟨by unfold getP; rw [if_neg hj, hbad]; rfl⟩
  have HCA := Aside0.mk h
  have HC0 := Aside0.mk h
  have HBAD := Aside0.mk hbad
  have hnow0 := hi.now
  have hmx : (s.ents.length : Int) ≤ 9223372036854775807 := by unfold maxLen at hm; omega
  have EK := Aside0.mk ek
  clear hg hm hj h hi ek hlen hbad
  go_enter Try.func13, Try.ntmps13
  go_wp2_with (first
   | ((with_reducible refine gate_dst (N := 4) rfl ?_); refine box_event ?hg (N := 4) ?hd (cs := #[.slice none 0 0, .slice none 0 0, .slice none 0 0]) (t := 40) ?hr ?_; (case hd => rfl); (case hg => rfl); (case hr => first | (go_simp; done) | (go_simp; rfl)); intro g4 hg w3 hbox hb; have BK4 := Aside0.mk (hbox); have GE4 := Aside0.mk (bG hg (HB.out)); replace HCA := Aside0.mk (HCA.out.below hb); replace HB := Aside0.mk (below_step (HB.out) hb); clear hb hbox hg)
   | ((with_reducible refine gate_dst (N := 5) rfl ?_); refine box_event ?hg (N := 5) ?hd (cs := #[.slice none 0 0, .slice none 0 0]) (t := 43) ?hr ?_; (case hd => rfl); (case hg => rfl); (case hr => first | (go_simp; done) | (go_simp; rfl)); intro g5 hg w4 hbox hb; have BK5 := Aside0.mk (hbox); have GE5 := Aside0.mk (bG hg (HB.out)); have NE := cN hg BK4; replace HCA := Aside0.mk (HCA.out.below hb); replace HB := Aside0.mk (below_step (HB.out) hb); replace BK4 := cB hb BK4
      have c4 : w4.cell? ⟨s.g, 4, none⟩ = some (.int .i64 s.p.now) := (blk_cell HCA.out.cells 4).trans rfl
      have f4 := blk_frozen HCA.out.cells 4
      have c3 : w4.cell? ⟨s.g, 3, none⟩ = some (.slice A s.ents.length c) := by rw [← EK.out]; exact (blk_cell HCA.out.cells 3).trans rfl
      clear hb hbox hg))
  have AH := ahead_mk HC0.out HCA.out HB.out BK4.out BK5.out GE4.out GE5.out NE.out
  clear c4 f4 c3 HCA HB BK4 BK5 GE4 GE5 NE
  generalize w4.setCell ⟨s.g, 4, none⟩ (.int .i64 (s.p.now + 1)) = w5 at *
  have S1 := Aside0.mk AH
  clear AH
  go_loopg [24] s.ents.length (fun kq v24 w' => ∃ j : Nat, v24 = .int .i64 j ∧ Aside0 (j + kq = s.ents.length) ∧ w5 = w')
  case atStart => exact ⟨0, rfl, ⟨by omega⟩, rfl⟩
  case round =>
    obtain ⟨j, rfl, HJ1, rfl⟩ := hrel
    have hj := HJ1.out
    by_cases hlt : j < s.ents.length
    · have c1 : decide ((j : Int) < (s.ents.length : Int)) = true := decide_eq_true (by omega)
      have i0 : 0 ≤ (j : Int) := by omega
      have i1 : (j : Int) < (s.ents.length : Int) := by omega
      obtain ⟨gb, rfl, hcell⟩ := HG.out w5 _ S1.out.left.at_ rfl rfl j hlt
      have hE := S1.out.left.at_.ents _ (getE (l := s.ents) hlt)
      have x0 : w5.cell? ⟨(s.ents.getD j dE).b, 0, none⟩ = some (.int .i64 (s.ents.getD j dE).m.i) := (blk_cell hE.cells 0).trans rfl
      have e1 := HF.out j hlt
      clear hE
      generalize s.ents.getD j dE = e at *
      cases gk with
      | zero => omega
      | succ k1 =>
        go_wp2
        go_roundg k1
        case measure => omega
        case rel => exact ⟨j + 1, by simp, ⟨by omega⟩, rfl⟩
    · have c1 : decide ((j : Int) < (s.ents.length : Int)) = false := decide_eq_false (by omega)
      have c2 : w5.cell? ⟨s.g, 2, none⟩ = some (.iface 28 (.pointer (some ⟨s.mb, 0, none⟩))) := (blk_cell S1.out.left.at_.cells 2).trans rfl
      have MB := make_bad S1.out.left.at_.made HBAD.out
      have MF := make_found s.mb
      have HL := Aside0.mk S1.out.left
      have BK4 := Aside0.mk S1.out.b4
      have BK5 := Aside0.mk S1.out.b5
      have GE4 := Aside0.mk S1.out.e4
      have GE5 := Aside0.mk S1.out.e5
      have NE45 := Aside0.mk S1.out.ne
      have BW := Aside0.mk (Nat.le_trans HC0.out.lo (Nat.le_of_lt (blk_lt HC0.out.cells)))
      go_wp2_with (first
       | (go_at_call 50; (with_reducible refine MB.mono ?_); rintro x w6 ⟨rfl, hb6⟩; replace BK4 := cB hb6 BK4; replace BK5 := cB hb6 BK5; replace HL := Aside0.mk (HL.out.next hb6); clear hb6)
       | ((with_reducible refine gate_dst (N := 9) rfl ?_); refine box_event ?hg (N := 9) ?hd (cs := #[.slice none 0 0, .slice none 0 0, .slice none 0 0]) (t := 40) ?hr ?_; (case hd => rfl); (case hg => rfl); (case hr => first | (go_simp; done) | (go_simp; rfl)); intro g9 hg w7 hbox hb; have BK9 := Aside0.mk (hbox); have GE9 := Aside0.mk (HL.out.fresh hg); have NE49 := cN hg BK4; have NE59 := cN hg BK5; replace BK4 := cB hb BK4; replace BK5 := cB hb BK5; replace HL := Aside0.mk (HL.out.next hb); clear hb hbox hg)
       | ((with_reducible refine gate_dst (N := 10) rfl ?_); refine box_event ?hg (N := 10) ?hd (cs := #[.slice none 0 0, .slice none 0 0]) (t := 43) ?hr ?_; (case hd => rfl); (case hg => rfl); (case hr => first | (go_simp; done) | (go_simp; rfl)); intro g10 hg w8 hbox hb; have BK10 := Aside0.mk (hbox); have GE10 := Aside0.mk (HL.out.fresh hg); have NE410 := cN hg BK4; have NE510 := cN hg BK5; have NE910 := cN hg BK9; replace BK4 := cB hb BK4; replace BK5 := cB hb BK5; replace BK9 := cB hb BK9; replace HL := Aside0.mk (HL.out.next hb); clear hb hbox hg)
       | ((with_reducible refine gate_store2 (t := 40) (x := .tmp 9) (y := .tmp 57) rfl ?_); refine ev_row (B := B) (w0 := _) rfl 40 (.tmp 9) (.tmp 57) rfl rfl g9 #[.slice none 0 0, .slice none 0 0, .slice none 0 0] ?hx ?hy 40 _ BK9.out (by kernel_rfl) rfl (by simp [Value.oneCell', Msh.mesh, Msh.tree]) (Below.refl B _) (Nat.le_trans BW.out GE9.out) ?_; (case hx => first | (go_simp; done) | rfl); (case hy => first | (go_simp; done) | rfl | (go_simp; rfl)); intro w9 hbox hb hk; replace HL := Aside0.mk (HL.out.row BK9.out (.inl rfl) GE9.out BW.out hb hk); replace BK9 := Aside0.mk hbox; replace BK4 := Aside0.mk ((hk _ NE49.out).trans BK4.out); replace BK5 := Aside0.mk ((hk _ NE59.out).trans BK5.out); replace BK10 := Aside0.mk ((hk _ (Ne.symm NE910.out)).trans BK10.out); clear hbox hb hk)
       | ((with_reducible refine gate_store2 (t := 43) (x := .tmp 10) (y := .tmp 58) rfl ?_); refine ev_row (B := B) (w0 := _) rfl 43 (.tmp 10) (.tmp 58) rfl rfl g10 #[.slice none 0 0, .slice none 0 0] ?hx ?hy 43 _ BK10.out (by kernel_rfl) rfl (by simp [Value.oneCell', Msh.mesh, Msh.tree]) (Below.refl B _) (Nat.le_trans BW.out GE10.out) ?_; (case hx => first | (go_simp; done) | rfl); (case hy => first | (go_simp; done) | rfl | (go_simp; rfl)); intro w10 hbox hb hk; replace HL := Aside0.mk (HL.out.row BK10.out (.inr (.inl rfl)) GE10.out BW.out hb hk); replace BK10 := Aside0.mk hbox; replace BK4 := Aside0.mk ((hk _ NE410.out).trans BK4.out); replace BK5 := Aside0.mk ((hk _ NE510.out).trans BK5.out); replace BK9 := Aside0.mk ((hk _ NE910.out).trans BK9.out); clear hbox hb hk)
       | ((with_reducible refine gate_store2 (t := 40) (x := .tmp 4) (y := .tmp 62) rfl ?_); refine ev_row (B := B) (w0 := _) rfl 40 (.tmp 4) (.tmp 62) rfl rfl g4 #[.slice none 0 0, .slice none 0 0, .slice none 0 0] ?hx ?hy 40 _ BK4.out (by kernel_rfl) rfl (by simp [Value.oneCell', Msh.mesh, Msh.tree]) (Below.refl B _) (Nat.le_trans BW.out GE4.out) ?_; (case hx => first | (go_simp; done) | rfl); (case hy => first | (go_simp; done) | rfl | (go_simp; rfl)); intro w11 hbox hb hk; replace HL := Aside0.mk (HL.out.row BK4.out (.inl rfl) GE4.out BW.out hb hk); replace BK4 := Aside0.mk hbox; replace BK5 := Aside0.mk ((hk _ (Ne.symm NE45.out)).trans BK5.out); clear hbox hb hk)
       | ((with_reducible refine gate_store2 (t := 43) (x := .tmp 5) (y := .tmp 63) rfl ?_); refine ev_row (B := B) (w0 := _) rfl 43 (.tmp 5) (.tmp 63) rfl rfl g5 #[.slice none 0 0, .slice none 0 0] ?hx ?hy 43 _ BK5.out (by kernel_rfl) rfl (by simp [Value.oneCell', Msh.mesh, Msh.tree]) (Below.refl B _) (Nat.le_trans BW.out GE5.out) ?_; (case hx => first | (go_simp; done) | rfl); (case hy => first | (go_simp; done) | rfl | (go_simp; rfl)); intro w12 hbox hb hk; replace HL := Aside0.mk (HL.out.row BK5.out (.inr (.inl rfl)) GE5.out BW.out hb hk); replace BK5 := Aside0.mk hbox; replace BK4 := Aside0.mk ((hk _ NE45.out).trans BK4.out); clear hbox hb hk))
      refine bodyPost_ret (results_list (rs := [.cell 4 40, .cell 5 43, .tmp 6]) rfl (by simp) (.cell g4 40 _ (0, 0) _ rfl BK4.out hu40 rfl (by kernel_rfl) (.cell g5 43 _ (0, 0) _ rfl BK5.out hu43 rfl (by kernel_rfl) (.tmp .nil)))) rfl ?_
      exact ⟨rfl, _, HP.out.symm, HL.out⟩
end Go.Proofs.Ytfhjdhhflpekiaa.G
