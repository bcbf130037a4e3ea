/- Get of what is made. -/
import Derived.Test.YtfhjdhhflpekiaaCMiss
import Derived.Test.YtfhjdhhflpekiaaCKeep
import Derived.Test.YtfhjdhhflpekiaaCPA
namespace Go.Proofs.Ytfhjdhhflpekiaa.G
open Go.RowKit Go.Proofs.Cache Go.Proofs.YtfhjdhhflpekiaaW.PrintWords Go.Proofs.YtfhjdhhflpekiaaW.PrintLast Go.Proofs.YtfhjdhhflpekiaaW.PrintMore
set_option linter.unusedVariables false
set_option linter.unusedSimpArgs false
theorem kept_blk {B : Bd} {sizes : List Int} {X : Nat → Prop} {w w1 : World} {s s1 : Cs} {g : Nat} {cs : Array Value} {t : TypeId} (l : Left B sizes X w s w1 s1) (hb : w.heap[g]? = some (.cells cs t (0, 0))) (ht : t ≠ 61 ∧ t ≠ 62 ∧ t ≠ 64) (h : CacheAt B sizes w s) : w1.heap[g]? = some (.cells cs t (0, 0)) := by
  refine (l.frame.keep g (blk_lt hb) ?_).trans hb
  rintro (rfl | hk | ⟨e, he, rfl⟩)
  · exact ht.1 (blk_ty hb h.cells)
  · obtain ⟨cs', hc'⟩ := h.kvTyped hk
    exact ht.2.1 (blk_ty hb hc')
  · exact ht.2.2 (blk_ty hb (h.ents e he).cells)
set_option maxHeartbeats 2000000 in
set_option maxRecDepth 100000 in
theorem getBuilt.calls (B : Bd) (sizes : List Int) (s : Cs) (i : Int) (w : World) (h : CacheAt B sizes w s) (hi : Inv sizes s.p) (hn : s.p.now ≤ 999999) (hj : ¬ findI s.p.kept i < s.p.kept.length) (hbad : badI sizes i = false) (hs : ∀ x ∈ sizes, x ≤ 1000) (hi64 : -9223372036854775808 ≤ i ∧ i ≤ 9223372036854775807) :
    Calls Try.prog 13 #[.pointer (some ⟨s.g, 0, none⟩), .int .i64 i] w (GetOk B sizes i w s) := by
  have hu40 := Try.underlying40
  have hu43 := Try.underlying43
  have HB := Aside0.mk (Below.refl w.heap.size w)
  obtain ⟨A, c, ek, hc, hm, hg⟩ := kv_open h.kv
  have HG : Aside0 (∀ w1 s1, CacheAt B sizes w1 s1 → s1.kv = s.kv → s1.ents = s.ents → ∀ j, j < s.ents.length → ∃ g, A = some ⟨g, 0, none⟩ ∧ w1.cell? ⟨g, j, none⟩ = some (.pointer (some ⟨(s.ents.getD j dE).b, 0, none⟩))) := ⟨fun w1 s1 h1 e1 e2 => by
    have := h1.kv
    rw [e1, e2, ek] at this
    exact kv_same this⟩
  have hlen : s.p.kept.length = s.ents.length := by rw [h.kept, List.length_map]
  have HF : Aside0 (∀ j, j < s.ents.length → ((s.ents.getD j dE).m.i == i) = false) := ⟨fun j hlt => by
    have h1 := find_none hj j (by omega)
    rw [h.kept, kept_get hlt] at h1
    exact h1⟩
  have HP : Aside0 (getP sizes s.p i = buildP sizes (nowP s.p) i) := ⟨by unfold getP; rw [if_neg hj, hbad]; rfl⟩
  have HCA := Aside0.mk h
  have HC0 := Aside0.mk h
  have HBAD := Aside0.mk hbad
  have HSZ := Aside0.mk hs
  have HINV := Aside0.mk hi
  have HI64 := Aside0.mk hi64
  have hnow0 := hi.now
  have hmx : (s.ents.length : Int) ≤ 9223372036854775807 := by unfold maxLen at hm; omega
  have EK := Aside0.mk ek
  clear hg hm hj h hi ek hlen hbad hs hi64
  go_enter Try.func13, Try.ntmps13
  go_wp2_with (first
   | ((with_reducible refine gate_dst (N := 4) rfl ?_); refine box_event ?hg (N := 4) ?hd (cs := #[.slice none 0 0, .slice none 0 0, .slice none 0 0]) (t := 40) ?hr ?_; (case hd => rfl); (case hg => rfl); (case hr => first | (go_simp; done) | (go_simp; rfl)); intro g4 hg w3 hbox hb; have BK4 := Aside0.mk (hbox); have GE4 := Aside0.mk (bG hg (HB.out)); replace HCA := Aside0.mk (HCA.out.below hb); replace HB := Aside0.mk (below_step (HB.out) hb); clear hb hbox hg)
   | ((with_reducible refine gate_dst (N := 5) rfl ?_); refine box_event ?hg (N := 5) ?hd (cs := #[.slice none 0 0, .slice none 0 0]) (t := 43) ?hr ?_; (case hd => rfl); (case hg => rfl); (case hr => first | (go_simp; done) | (go_simp; rfl)); intro g5 hg w4 hbox hb; have BK5 := Aside0.mk (hbox); have GE5 := Aside0.mk (bG hg (HB.out)); have NE := cN hg BK4; replace HCA := Aside0.mk (HCA.out.below hb); replace HB := Aside0.mk (below_step (HB.out) hb); replace BK4 := cB hb BK4
      have c4 : w4.cell? ⟨s.g, 4, none⟩ = some (.int .i64 s.p.now) := (blk_cell HCA.out.cells 4).trans rfl
      have f4 := blk_frozen HCA.out.cells 4
      have c3 : w4.cell? ⟨s.g, 3, none⟩ = some (.slice A s.ents.length c) := by rw [← EK.out]; exact (blk_cell HCA.out.cells 3).trans rfl
      clear hb hbox hg))
  have AH := ahead_mk HC0.out HCA.out HB.out BK4.out BK5.out GE4.out GE5.out NE.out
  clear c4 f4 c3 HCA HB BK4 BK5 GE4 GE5 NE
  generalize w4.setCell ⟨s.g, 4, none⟩ (.int .i64 (s.p.now + 1)) = w5 at *
  have S1 := Aside0.mk AH
  clear AH
  go_loopg [24] s.ents.length (fun kq v24 w' => ∃ j : Nat, v24 = .int .i64 j ∧ Aside0 (j + kq = s.ents.length) ∧ w5 = w')
  case atStart => exact ⟨0, rfl, ⟨by omega⟩, rfl⟩
  case round =>
    obtain ⟨j, rfl, HJ1, rfl⟩ := hrel
    have hj := HJ1.out
    by_cases hlt : j < s.ents.length
    · have c1 : decide ((j : Int) < (s.ents.length : Int)) = true := decide_eq_true (by omega)
      have i0 : 0 ≤ (j : Int) := by omega
      have i1 : (j : Int) < (s.ents.length : Int) := by omega
      obtain ⟨gb, rfl, hcell⟩ := HG.out w5 _ S1.out.left.at_ rfl rfl j hlt
      have hE := S1.out.left.at_.ents _ (getE (l := s.ents) hlt)
      have x0 : w5.cell? ⟨(s.ents.getD j dE).b, 0, none⟩ = some (.int .i64 (s.ents.getD j dE).m.i) := (blk_cell hE.cells 0).trans rfl
      have e1 := HF.out j hlt
      clear hE
      generalize s.ents.getD j dE = e at *
      cases gk with
      | zero => omega
      | succ k1 =>
        go_wp2
        go_roundg k1
        case measure => omega
        case rel => exact ⟨j + 1, by simp, ⟨by omega⟩, rfl⟩
    · have c1 : decide ((j : Int) < (s.ents.length : Int)) = false := decide_eq_false (by omega)
      have c2 : w5.cell? ⟨s.g, 2, none⟩ = some (.iface 28 (.pointer (some ⟨s.mb, 0, none⟩))) := (blk_cell S1.out.left.at_.cells 2).trans rfl
      have MB := make_good S1.out.left.at_.made HBAD.out HSZ.out S1.out.left.at_.nlt
      have MF := make_found s.mb
      have HL := Aside0.mk S1.out.left
      have BK4 := Aside0.mk S1.out.b4
      have BK5 := Aside0.mk S1.out.b5
      have GE4 := Aside0.mk S1.out.e4
      have GE5 := Aside0.mk S1.out.e5
      have NE45 := Aside0.mk S1.out.ne
      have BW := Aside0.mk (Nat.le_trans HC0.out.lo (Nat.le_of_lt (blk_lt HC0.out.cells)))
      have htb := HINV.out.tb.1
      have htb1 : s.p.tb ≤ 1000000 := by have := HINV.out.tb.2; omega
      go_wp2_with (first
       | (go_at_call 50; (with_reducible refine MB.mono ?_); rintro x w6 ⟨m, hmi, hmn, rfl, hb6, hms⟩; replace BK4 := cB hb6 BK4; replace BK5 := cB hb6 BK5; replace HL := Aside0.mk (HL.out.next hb6); have MS := Aside0.mk hms; have MI := Aside0.mk hmi; have MN := Aside0.mk hmn; clear hb6 hms hmi hmn)
       | ((with_reducible refine gate_dst (N := 9) rfl ?_); refine box_event ?hg (N := 9) ?hd (cs := #[.slice none 0 0, .slice none 0 0, .slice none 0 0]) (t := 40) ?hr ?_; (case hd => rfl); (case hg => rfl); (case hr => first | (go_simp; done) | (go_simp; rfl)); intro g9 hg w7 hbox hb; have BK9 := Aside0.mk (hbox); have GE9 := Aside0.mk (HL.out.fresh hg); have NE49 := cN hg BK4; have NE59 := cN hg BK5; replace BK4 := cB hb BK4; replace BK5 := cB hb BK5; replace HL := Aside0.mk (HL.out.next hb); replace MS := Aside0.mk (MS.out.move (.of_below hb)); clear hb hbox hg)
       | ((with_reducible refine gate_dst (N := 10) rfl ?_); refine box_event ?hg (N := 10) ?hd (cs := #[.slice none 0 0, .slice none 0 0]) (t := 43) ?hr ?_; (case hd => rfl); (case hg => rfl); (case hr => first | (go_simp; done) | (go_simp; rfl)); intro g10 hg w8 hbox hb; have BK10 := Aside0.mk (hbox); have GE10 := Aside0.mk (HL.out.fresh hg); have NE410 := cN hg BK4; have NE510 := cN hg BK5; have NE910 := cN hg BK9; replace BK4 := cB hb BK4; replace BK5 := cB hb BK5; replace BK9 := cB hb BK9; replace HL := Aside0.mk (HL.out.next hb); replace MS := Aside0.mk (MS.out.move (.of_below hb)); clear hb hbox hg)
       | ((with_reducible refine gate_store2 (t := 40) (x := .tmp 9) (y := .tmp 57) rfl ?_); refine ev_row (B := B) (w0 := _) rfl 40 (.tmp 9) (.tmp 57) rfl rfl g9 m.mesh ?hx ?hy 40 _ BK9.out (by kernel_rfl) rfl (by simp [Value.oneCell', Msh.mesh, Msh.tree]) (Below.refl B _) (Nat.le_trans BW.out GE9.out) ?_; (case hx => first | (go_simp; done) | rfl); (case hy => first | (go_simp; done) | rfl | (go_simp; rfl)); intro w9 hbox hb hk; replace MS := Aside0.mk (MS.out.move (.of_but BK9.out rfl (Nat.le_trans BW.out GE9.out) hb.size hk)); replace HL := Aside0.mk (HL.out.row BK9.out (.inl rfl) GE9.out BW.out hb hk); replace BK9 := Aside0.mk hbox; replace BK4 := Aside0.mk ((hk _ NE49.out).trans BK4.out); replace BK5 := Aside0.mk ((hk _ NE59.out).trans BK5.out); replace BK10 := Aside0.mk ((hk _ (Ne.symm NE910.out)).trans BK10.out); clear hbox hb hk)
       | ((with_reducible refine gate_store2 (t := 43) (x := .tmp 10) (y := .tmp 58) rfl ?_); refine ev_row (B := B) (w0 := _) rfl 43 (.tmp 10) (.tmp 58) rfl rfl g10 m.tree ?hx ?hy 43 _ BK10.out (by kernel_rfl) rfl (by simp [Value.oneCell', Msh.mesh, Msh.tree]) (Below.refl B _) (Nat.le_trans BW.out GE10.out) ?_; (case hx => first | (go_simp; done) | rfl); (case hy => first | (go_simp; done) | rfl | (go_simp; rfl)); intro w10 hbox hb hk; replace MS := Aside0.mk (MS.out.move (.of_but BK10.out rfl (Nat.le_trans BW.out GE10.out) hb.size hk)); replace HL := Aside0.mk (HL.out.row BK10.out (.inr (.inl rfl)) GE10.out BW.out hb hk); replace BK10 := Aside0.mk hbox; replace BK4 := Aside0.mk ((hk _ NE410.out).trans BK4.out); replace BK5 := Aside0.mk ((hk _ NE510.out).trans BK5.out); replace BK9 := Aside0.mk ((hk _ NE910.out).trans BK9.out); have c5 : w10.cell? ⟨s.g, 5, none⟩ = some (.int .i64 s.p.tb) := (blk_cell HL.out.at_.cells 5).trans rfl; have f5 : w10.frozen? ⟨s.g, 5, none⟩ = false := blk_frozen HL.out.at_.cells 5; clear hbox hb hk))
      obtain rfl := MI.out
      have L11 : Aside0 (Left B sizes NoX w s _ _) := ⟨HL.out.trans (Left.set (X := NoX) HL.out.at_ 5 (.int .i64 (s.p.tb + 1)) { nowP s.p with tb := s.p.tb + 1 } rfl rfl (by simp [Cs.cs, nowP]))⟩
      replace MS := Aside0.mk (MS.out.move (Still.set HL.out.at_.cells rfl HL.out.at_.lo 5 (.int .i64 (s.p.tb + 1))))
      have ng : ∀ g cs t, w10.heap[g]? = some (.cells cs t (0, 0)) → t ≠ 61 → g ≠ s.g := fun g cs t hb ht q => by
        subst q
        exact ht (blk_ty hb HL.out.at_.cells)
      replace BK4 := Aside0.mk (blk_far BK4.out (p := ⟨s.g, 5, none⟩) (ng _ _ _ BK4.out (by decide)) (.int .i64 (s.p.tb + 1)))
      replace BK5 := Aside0.mk (blk_far BK5.out (p := ⟨s.g, 5, none⟩) (ng _ _ _ BK5.out (by decide)) (.int .i64 (s.p.tb + 1)))
      replace BK9 := Aside0.mk (blk_far BK9.out (p := ⟨s.g, 5, none⟩) (ng _ _ _ BK9.out (by decide)) (.int .i64 (s.p.tb + 1)))
      replace BK10 := Aside0.mk (blk_far BK10.out (p := ⟨s.g, 5, none⟩) (ng _ _ _ BK10.out (by decide)) (.int .i64 (s.p.tb + 1)))
      have hgg : ({ s with p := nowP s.p } : Cs).g = s.g := rfl
      rw [hgg] at L11 MS
      clear ng hgg c5 f5 HL c1 c2
      generalize w10.setCell ⟨s.g, 5, none⟩ (.int .i64 (s.p.tb + 1)) = w11 at *
      have y0 : w11.cell? ⟨g9, 0, none⟩ = some (.slice m.vA 1 m.vc) := (blk_cell BK9.out 0).trans rfl
      have y1 : w11.cell? ⟨g9, 1, none⟩ = some (.slice none 0 0) := (blk_cell BK9.out 1).trans rfl
      have y2 : w11.cell? ⟨g9, 2, none⟩ = some (.slice m.tA m.n m.tc) := (blk_cell BK9.out 2).trans rfl
      have z0 : w11.cell? ⟨g10, 0, none⟩ = some (.slice none 0 0) := (blk_cell BK10.out 0).trans rfl
      have z1 : w11.cell? ⟨g10, 1, none⟩ = some (.slice m.iA 1 m.ic) := (blk_cell BK10.out 1).trans rfl
      have c4 : w11.cell? ⟨s.g, 4, none⟩ = some (.int .i64 (s.p.now + 1)) := (blk_cell L11.out.at_.cells 4).trans rfl
      have hW : Below w11.heap.size w11 (w11.alloc (.cells (Ent.cs ⟨w11.heap.size, m, s.p.now + 1⟩) 64 (0, 0))).drew := below_drew1 (below_alloc (Below.refl _ _) _)
      have KC : Calls Try.prog 23 #[.pointer (some ⟨s.g, 0, none⟩), .pointer (some ⟨w11.heap.size, 0, none⟩)] (w11.alloc (.cells #[.int .i64 m.i, .slice m.vA 1 m.vc, .slice none 0 0, .slice m.tA m.n m.tc, .slice none 0 0, .slice m.iA 1 m.ic, .int .i64 (s.p.now + 1)] 64 (0, 0))).drew (KeepPost B sizes _ { s with p := { nowP s.p with tb := s.p.tb + 1 } } ⟨w11.heap.size, m, s.p.now + 1⟩) :=
        keep.calls B sizes { s with p := { nowP s.p with tb := s.p.tb + 1 } } ⟨w11.heap.size, m, s.p.now + 1⟩ _ (L11.out.at_.below hW) ⟨blk_drew (blk_new w11 _), Nat.le_trans BW.out L11.out.frame.below.size, MS.out.move (.of_below hW)⟩ (fun hm => Nat.lt_irrefl _ (L11.out.at_.lt hm)) (inv_make HINV.out) (by show s.p.now + 1 ≤ 1000000; omega) (by rw [MN.out]; exact size_le HBAD.out HSZ.out)
      have HWW := Aside0.mk hW
      clear hW
      have yb := fun (p : Addr) (hp : p.block < w11.heap.size) => HWW.out.cell (p := p) hp
      have y0b := (yb ⟨g9, 0, none⟩ (blk_lt BK9.out)).trans y0
      have y1b := (yb ⟨g9, 1, none⟩ (blk_lt BK9.out)).trans y1
      have y2b := (yb ⟨g9, 2, none⟩ (blk_lt BK9.out)).trans y2
      have z0b := (yb ⟨g10, 0, none⟩ (blk_lt BK10.out)).trans z0
      have z1b := (yb ⟨g10, 1, none⟩ (blk_lt BK10.out)).trans z1
      have c4b := (yb ⟨s.g, 4, none⟩ (blk_lt L11.out.at_.cells)).trans c4
      have YB := Aside0.mk (And.intro y0b (And.intro y1b (And.intro y2b (And.intro z0b (And.intro z1b c4b)))))
      clear yb y0b y1b y2b z0b z1b c4b
      go_region_held3 (fun w' => w'.cell? ⟨g9, 0, none⟩ = some (.slice m.vA 1 m.vc) ∧ w'.cell? ⟨g9, 1, none⟩ = some (.slice none 0 0) ∧ w'.cell? ⟨g9, 2, none⟩ = some (.slice m.tA m.n m.tc) ∧ w'.cell? ⟨g10, 0, none⟩ = some (.slice none 0 0) ∧ w'.cell? ⟨g10, 1, none⟩ = some (.slice m.iA 1 m.ic) ∧ w'.cell? ⟨s.g, 4, none⟩ = some (.int .i64 (s.p.now + 1))) (first | exact ⟨y0, y1, y2, z0, z1, c4⟩ | exact YB.out | exact YC.out) (first
       | (go_at_call 23; (with_reducible refine KC.mono ?_); rintro x w12 ⟨rfl, s', hp', L'⟩
          have LN := L11.out.trans ((Left.of_below L11.out.at_ HWW.out).trans L')
          have LW : Left B sizes NoX w s w12 s' := LN.weaken fun k hk => .inr (by rw [hk]; exact L11.out.frame.below.size)
          have b9 : w12.heap[g9]? = some (.cells m.mesh 40 (0, 0)) := kept_blk L' (blk_below BK9.out HWW.out) (by decide) (L11.out.at_.below HWW.out)
          have b10 : w12.heap[g10]? = some (.cells m.tree 43 (0, 0)) := kept_blk L' (blk_below BK10.out HWW.out) (by decide) (L11.out.at_.below HWW.out)
          have b4 : w12.heap[g4]? = some (.cells #[.slice none 0 0, .slice none 0 0, .slice none 0 0] 40 (0, 0)) := kept_blk L' (blk_below BK4.out HWW.out) (by decide) (L11.out.at_.below HWW.out)
          have b5 : w12.heap[g5]? = some (.cells #[.slice none 0 0, .slice none 0 0] 43 (0, 0)) := kept_blk L' (blk_below BK5.out HWW.out) (by decide) (L11.out.at_.below HWW.out)
          have hg' : s'.g = s.g := LW.g
          have hc4 : w12.cell? ⟨s.g, 4, none⟩ = some (.int .i64 (s.p.now + 1)) := by rw [← hg']; exact (blk_cell L'.at_.cells 4).trans (by show some (Value.int .i64 s'.p.now) = _; rw [hp', keepP_now]; rfl)
          have YC : Aside0 (w12.cell? ⟨g9, 0, none⟩ = some (.slice m.vA 1 m.vc) ∧ w12.cell? ⟨g9, 1, none⟩ = some (.slice none 0 0) ∧ w12.cell? ⟨g9, 2, none⟩ = some (.slice m.tA m.n m.tc) ∧ w12.cell? ⟨g10, 0, none⟩ = some (.slice none 0 0) ∧ w12.cell? ⟨g10, 1, none⟩ = some (.slice m.iA 1 m.ic) ∧ w12.cell? ⟨s.g, 4, none⟩ = some (.int .i64 (s.p.now + 1))) := ⟨(blk_cell b9 0).trans rfl, (blk_cell b9 1).trans rfl, (blk_cell b9 2).trans rfl, (blk_cell b10 0).trans rfl, (blk_cell b10 1).trans rfl, hc4⟩
          have MS12 := Aside0.mk ((MS.out.move (.of_below HWW.out)).move (Left.still (L11.out.at_.below HWW.out) L'))
          have HP12 := Aside0.mk hp'
          have LW12 := Aside0.mk LW
          have B9 := Aside0.mk b9
          have B10 := Aside0.mk b10
          have B4 := Aside0.mk b4
          have B5 := Aside0.mk b5
          clear LN LW b9 b10 b4 b5 hg' hc4 hp' L'))
      go_wp2
      clear y0 y1 y2 z0 z1 c4 YB KC
      obtain ⟨y0, y1, y2, z0, z1, c4⟩ := YC.out
      have u0 : w12.cell? ⟨g4, 0, none⟩ = some (.slice none 0 0) := (blk_cell B4.out 0).trans rfl
      have u1 : w12.cell? ⟨g4, 1, none⟩ = some (.slice none 0 0) := (blk_cell B4.out 1).trans rfl
      have u2 : w12.cell? ⟨g4, 2, none⟩ = some (.slice none 0 0) := (blk_cell B4.out 2).trans rfl
      have v0 : w12.cell? ⟨g5, 0, none⟩ = some (.slice none 0 0) := (blk_cell B5.out 0).trans rfl
      have v1 : w12.cell? ⟨g5, 1, none⟩ = some (.slice none 0 0) := (blk_cell B5.out 1).trans rfl
      have fu0 := blk_frozen B4.out 0
      have fu1 := blk_frozen B4.out 1
      have fu2 := blk_frozen B4.out 2
      have fv0 := blk_frozen B5.out 0
      have fv1 := blk_frozen B5.out 1
      have n1 : ¬ g4 = g9 := NE49.out
      have n2 : ¬ g9 = g4 := Ne.symm NE49.out
      have n3 : ¬ g5 = g9 := NE59.out
      have n4 : ¬ g9 = g5 := Ne.symm NE59.out
      have n5 : ¬ g4 = g5 := NE45.out
      have n6 : ¬ g5 = g4 := Ne.symm NE45.out
      have n7 : ¬ g4 = g10 := NE410.out
      have n8 : ¬ g10 = g4 := Ne.symm NE410.out
      have n9 : ¬ g5 = g10 := NE510.out
      have n10 : ¬ g10 = g5 := Ne.symm NE510.out
      have PK := Aside0.mk (poked_mk (B := B) m B4.out B5.out NE45.out (Nat.le_trans BW.out GE4.out) (Nat.le_trans BW.out GE5.out))
      unfold poked at PK
      go_region
      clear n1 n2 n3 n4 n5 n6 n7 n8 n9 n10 u0 u1 u2 v0 v1 fu0 fu1 fu2 fv0 fv1 y0 y1 y2 z0 z1 c4
      have FIN : Aside0 (GetOk B sizes m.i w s (.returned (.tuple #[.agg m.mesh, .agg m.tree, .int .i64 0])) _) := ⟨by
        have LF := LW12.out.poked PK.out B4.out B5.out GE4.out GE5.out BW.out
        refine ⟨m, _, rfl, MN.out, rfl, ?_, ?_, LF⟩
        · refine MS12.out.move ⟨PK.out.below.size, fun k hk => PK.out.other k ?_⟩
          rintro (rfl | rfl)
          · exact hk.no B4.out rfl (Nat.le_trans BW.out GE4.out)
          · exact hk.no B5.out rfl (Nat.le_trans BW.out GE5.out)
        · rw [HP.out, HP12.out]
          unfold buildP newK Ent.k
          show keepP _ ⟨m.i, s.p.now + 1, m.n⟩ = _
          rw [MN.out]
          rfl⟩
      generalize World.drew _ = w7 at *
      go_wp2
      refine bodyPost_ret (results_list (rs := [.cell 4 40, .cell 5 43, .tmp 6]) rfl (by simp) (.cell g4 40 _ (0, 0) _ rfl PK.out.b4 hu40 rfl (by kernel_rfl) (.cell g5 43 _ (0, 0) _ rfl PK.out.b5 hu43 rfl (by kernel_rfl) (.tmp .nil)))) rfl ?_
      exact FIN.out
end Go.Proofs.Ytfhjdhhflpekiaa.G
