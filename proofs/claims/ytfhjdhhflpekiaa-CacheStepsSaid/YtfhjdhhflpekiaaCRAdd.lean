/- The document's Get of what is built and kept. -/
import Derived.Test.YtfhjdhhflpekiaaCRA
namespace Go.Proofs.Ytfhjdhhflpekiaa.G
open Go.RowKit Go.Proofs.Cache Go.Proofs.YtfhjdhhflpekiaaW.PrintWords Go.Proofs.YtfhjdhhflpekiaaW.PrintLast Go.Proofs.YtfhjdhhflpekiaaW.PrintMore
set_option linter.unusedVariables false
set_option linter.unusedSimpArgs false
/-- What a round of the making of room leans on. -/
structure RIn (sizes : List Int) (d : RD) : Prop where
  good : GoodK sizes d.K
  KA : d.K.length = d.A.length
  len : d.K.length ≤ 999999
  td : 0 ≤ d.td ∧ d.td + d.K.length ≤ 1000000
theorem refHeld_at {b : Nat} {sizes : List Int} {w : World} {r : Rf} {d : RD} (h : RefS b sizes w r d) (hI : RIn sizes d) {A1 A2 : Option Addr} {c1 c2 : Nat} (e1 : r.kv = .slice A1 d.K.length c1) (e2 : r.av = .slice A2 d.A.length c2) {S : Int} (hS : sumS sizes d.K d.K.length = S) :
    Calls Try.prog 19 #[.agg #[.int .i64 d.room, .slice r.pA d.picks.length r.pc, .slice r.sA sizes.length r.sc, .slice A1 d.K.length c1, .slice A2 d.A.length c2, .int .i64 d.now, .int .i64 d.tb, .int .i64 d.td, .int .i64 d.tp, .int .i64 d.tm]] w fun e w' => e = .returned (.int .i64 S) ∧ Below w.heap.size w w' := by
  have := refHeld.calls h hI.good (by have := hI.len; omega)
  unfold Rf.cs at this
  rw [e1, e2, hS] at this
  exact this
theorem victimR_lt {d : RD} (h : 0 < d.K.length) : victimR d < d.K.length := by
  unfold victimR
  split
  · exact minAt_lt _ _ h
  · rename_i x t _
    have h1 := Int.emod_nonneg x (show (d.K.length : Int) ≠ 0 by omega)
    have h2 := Int.emod_lt_of_pos x (show 0 < (d.K.length : Int) by omega)
    omega
section
variable {b : Nat} {sizes : List Int} {w w1 : World} {r : Rf} {d : RD}
theorem RefS.rowK (h : RefS b sizes w r d) {A : Option Addr} {c : Nat} {L : List Int} {ok : Nat → Prop} (R : Kd.R (Kd.int .i64) 3 w1 w.heap.size ok (.slice A L.length c) L) (hb : Below w.heap.size w w1) :
    RefS b sizes (w1.setCell ⟨r.g, 3, none⟩ (.slice A L.length c)) { r with kv := .slice A L.length c } { d with K := L } ∧ RefL b w r (w1.setCell ⟨r.g, 3, none⟩ (.slice A L.length c)) { r with kv := .slice A L.length c } :=
  h.newK (hb.mono h.size_le) (fun k hk _ => hb.block k hk) (own_weaken (Kd.own_of_R R) h.size_le) (fun k q => .inr (own_base (Kd.own_of_R R) k q))
theorem RefS.rowA (h : RefS b sizes w r d) {A : Option Addr} {c : Nat} {L : List Int} {ok : Nat → Prop} (R : Kd.R (Kd.int .i64) 3 w1 w.heap.size ok (.slice A L.length c) L) (hb : Below w.heap.size w w1) :
    RefS b sizes (w1.setCell ⟨r.g, 4, none⟩ (.slice A L.length c)) { r with av := .slice A L.length c } { d with A := L } ∧ RefL b w r (w1.setCell ⟨r.g, 4, none⟩ (.slice A L.length c)) { r with av := .slice A L.length c } :=
  h.newA (hb.mono h.size_le) (fun k hk _ => hb.block k hk) (own_weaken (Kd.own_of_R R) h.size_le) (fun k q => .inr (own_base (Kd.own_of_R R) k q))
theorem RefS.snocK (h : RefS b sizes w r d) {A1 : Option Addr} {k1 : Nat} (e1 : r.kv = .slice A1 d.K.length k1) {v1 : Value} {i : Int} (ho1 : w1.ownsRow b 3 1 v1 (nums .i64 d.K ++ [Value.int .i64 i]).length (nums .i64 d.K ++ [Value.int .i64 i])) (hb1 : Below b w w1)
    (hg1 : w.grownBy w1 (Value.slice A1 d.K.length k1).ownBlock) (hat1 : v1.ownBlock = (Value.slice A1 d.K.length k1).ownBlock ∨ ∃ b', v1.ownBlock = some b' ∧ w.heap.size ≤ b') :
    ∃ A3 k3, v1 = .slice A3 (d.K.length + 1) k3 ∧ RefS b sizes (w1.setCell ⟨r.g, 3, none⟩ v1) { r with kv := v1 } { d with K := d.K ++ [i] } ∧ RefL b w r (w1.setCell ⟨r.g, 3, none⟩ v1) { r with kv := v1 } ∧ w1.heap[r.g]? = w.heap[r.g]? := by
  rw [show (nums .i64 d.K ++ [Value.int .i64 i]).length = (d.K ++ [i]).length by simp [nums], show nums .i64 d.K ++ [Value.int .i64 i] = nums .i64 (d.K ++ [i]) by simp [nums]] at ho1
  obtain ⟨A3, k3, e3, _⟩ := row_open ho1
  have N := h.newK hb1 (fun k hk hne => hg1.block k hk (by rw [← e1]; exact fun q => hne q.symm)) ho1 (by
    intro k q
    rcases hat1 with z | ⟨b', z, hb'⟩
    · exact .inl (by rw [e1, ← z]; exact q)
    · rw [z] at q
      injection q with q
      exact .inr (by omega))
  refine ⟨A3, k3, by rw [e3, List.length_append, List.length_singleton], N.1, N.2, hg1.block _ h.lt (by rw [← e1]; exact fun q => h.kv_ne q.symm)⟩
theorem RefS.snocA (h : RefS b sizes w r d) {A1 : Option Addr} {k1 : Nat} (e1 : r.av = .slice A1 d.A.length k1) {v1 : Value} {i : Int} (ho1 : w1.ownsRow b 3 1 v1 (nums .i64 d.A ++ [Value.int .i64 i]).length (nums .i64 d.A ++ [Value.int .i64 i])) (hb1 : Below b w w1)
    (hg1 : w.grownBy w1 (Value.slice A1 d.A.length k1).ownBlock) (hat1 : v1.ownBlock = (Value.slice A1 d.A.length k1).ownBlock ∨ ∃ b', v1.ownBlock = some b' ∧ w.heap.size ≤ b') :
    ∃ A3 k3, v1 = .slice A3 (d.A.length + 1) k3 ∧ RefS b sizes (w1.setCell ⟨r.g, 4, none⟩ v1) { r with av := v1 } { d with A := d.A ++ [i] } ∧ RefL b w r (w1.setCell ⟨r.g, 4, none⟩ v1) { r with av := v1 } ∧ w1.heap[r.g]? = w.heap[r.g]? := by
  rw [show (nums .i64 d.A ++ [Value.int .i64 i]).length = (d.A ++ [i]).length by simp [nums], show nums .i64 d.A ++ [Value.int .i64 i] = nums .i64 (d.A ++ [i]) by simp [nums]] at ho1
  obtain ⟨A3, k3, e3, _⟩ := row_open ho1
  have N := h.newA hb1 (fun k hk hne => hg1.block k hk (by rw [← e1]; exact fun q => hne q.symm)) ho1 (by
    intro k q
    rcases hat1 with z | ⟨b', z, hb'⟩
    · exact .inl (by rw [e1, ← z]; exact q)
    · rw [z] at q
      injection q with q
      exact .inr (by omega))
  refine ⟨A3, k3, by rw [e3, List.length_append, List.length_singleton], N.1, N.2, hg1.block _ h.lt (by rw [← e1]; exact fun q => h.av_ne q.symm)⟩
theorem RIn.drop (h : RIn sizes d) (h0 : 0 < d.K.length) : RIn sizes (dropR d) ∧ (dropR d).K.length + 1 = d.K.length := by
  have hv := victimR_lt h0
  have hKA := h.KA
  have e1 : (dropR d).K.length + 1 = d.K.length := by
    show (d.K.eraseIdx (victimR d)).length + 1 = _
    rw [List.length_eraseIdx_of_lt hv]
    omega
  have e2 : (dropR d).A.length + 1 = d.A.length := by
    show (d.A.eraseIdx (victimR d)).length + 1 = _
    rw [List.length_eraseIdx_of_lt (by omega)]
    omega
  have ht := h.td
  have hl := h.len
  refine ⟨⟨fun x hx => h.good x (List.mem_of_mem_eraseIdx hx), by omega, by omega, ?_⟩, e1⟩
  show 0 ≤ d.td + 1 ∧ d.td + 1 + ((dropR d).K.length : Nat) ≤ 1000000
  omega
end
set_option maxHeartbeats 2000000 in
set_option maxRecDepth 100000 in
theorem rgetAdd.calls {b : Nat} {sizes : List Int} {w : World} {r : Rf} {d : RD} (i : Int) (h : RefS b sizes w r d) (hl : d.K.length ≤ 1000000) (hn : 0 ≤ d.now ∧ d.now ≤ 1000000) (hj : findR d.K i = d.K.length) (h0 : 0 ≤ i) (h1 : i < (sizes.length : Int)) (v : Int) (hv : rd sizes i = v) (hv0 : 0 ≤ v) (hv1 : v ≤ 1000) (hi : v ≤ d.room) (htb : 0 ≤ d.tb ∧ d.tb ≤ 1000000) (hI : RIn sizes d) :
    Calls Try.prog 14 #[.pointer (some ⟨r.g, 0, none⟩), .int .i64 i] w (RGot b sizes w r true (addR sizes i (roomR sizes v d.K.length d.build))) := by
  obtain ⟨A, c, ek, hc, hC, _⟩ := row_open h.kv
  have hn0 := hn.1
  have hn1 := hn.2
  have c5 : w.cell? ⟨r.g, 5, none⟩ = some (.int .i64 d.now) := (blk_cell h.cells 5).trans rfl
  have f5 := blk_frozen h.cells 5
  have NM := h.num 5 (d.now + 1) d.tick (by simp [Rf.cs, RD.tick]) rfl rfl rfl
  have EK := Aside0.mk ek
  have HJ := Aside0.mk hj
  have hkl : (d.K.length : Int) ≤ 1000000 := by omega
  have d1 : decide (i < 0) = false := decide_eq_false (by omega)
  have d2 : decide (i ≥ (sizes.length : Int)) = false := decide_eq_false (by omega)
  have d3 : decide (v < 0) = false := decide_eq_false (by omega)
  have d4 : decide (v > d.room) = false := decide_eq_false (by omega)
  have hrv := Aside0.mk hi
  have HI := Aside0.mk hI
  have b0 := htb.1
  have b1 := htb.2
  clear ek hC hc hj hn h hi htb hI
  go_enter Try.func14, Try.ntmps14
  go_wp2
  have S1 := Aside0.mk NM.1
  have L1 := Aside0.mk NM.2
  clear NM c5 f5
  generalize w.setCell ⟨r.g, 5, none⟩ (.int .i64 (d.now + 1)) = w5 at *
  go_loopg [5] d.K.length (fun kq v5 w' => ∃ j : Nat, v5 = .int .i64 j ∧ Aside0 (j + kq = d.K.length) ∧ w5 = w')
  case atStart => exact ⟨0, rfl, ⟨by omega⟩, rfl⟩
  case round =>
    obtain ⟨j, rfl, HJ1, rfl⟩ := hrel
    have hj := HJ1.out
    have c3 : w5.cell? ⟨r.g, 3, none⟩ = some (.slice A d.K.length c) := by rw [← EK.out]; exact (blk_cell S1.out.cells 3).trans rfl
    by_cases hlt : j < d.K.length
    · have e1 : decide ((j : Int) < (d.K.length : Int)) = true := decide_eq_true (by omega)
      have j0 : 0 ≤ (j : Int) := by omega
      have j1 : (j : Int) < (d.K.length : Int) := by omega
      obtain ⟨ad, q1, hx1⟩ := Kd.at_int (S1.out.kC EK.out) (j : Int) j0 j1
      cases q1
      rw [Int.toNat_natCast] at hx1
      replace hx1 : w5.cell? (ad.add j) = some (.int .i64 (rd d.K (j : Int))) := hx1
      have e2 := findR_lt (K := d.K) (i := i) (j := j) (by rw [HJ.out]; exact hlt)
      generalize rd d.K (j : Int) = y at *
      have e3 : ¬ y = i := beq_eq_false_iff_ne.mp e2
      cases gk with
      | zero => omega
      | succ k1 =>
        go_wp2
        go_roundg k1
        case measure => omega
        case rel => exact ⟨j + 1, by simp, ⟨by omega⟩, rfl⟩
    · have e1 : decide ((j : Int) < (d.K.length : Int)) = false := decide_eq_false (by omega)
      clear HJ1 hj
      have c2 : w5.cell? ⟨r.g, 2, none⟩ = some (.slice r.sA sizes.length r.sc) := (blk_cell S1.out.cells 2).trans rfl
      obtain ⟨as_, q4, hx4⟩ := Kd.at_int S1.out.szs i h0 h1
      rw [q4] at c2
      rw [hv] at hx4
      have c6 : w5.cell? ⟨r.g, 6, none⟩ = some (.int .i64 d.tb) := (blk_cell S1.out.cells 6).trans rfl
      have f6 := blk_frozen S1.out.cells 6
      go_wp2
      have NM := S1.out.num 6 (d.tb + 1) d.build (by simp [Rf.cs, RD.tick, RD.build]) rfl rfl rfl
      have S2 := Aside0.mk NM.1
      have L2 := Aside0.mk (L1.out.trans NM.2)
      clear NM c6 f6 hx4 c2 c3
      generalize w5.setCell ⟨r.g, 6, none⟩ (.int .i64 (d.tb + 1)) = w6 at *
      have c2 : w6.cell? ⟨r.g, 2, none⟩ = some (.slice r.sA sizes.length r.sc) := (blk_cell S2.out.cells 2).trans rfl
      obtain ⟨as2, q5, hx4⟩ := Kd.at_int S2.out.szs i h0 h1
      rw [q5] at c2
      rw [hv] at hx4
      have c0 : w6.cell? ⟨r.g, 0, none⟩ = some (.int .i64 d.room) := (blk_cell S2.out.cells 0).trans rfl
      go_quiet (fail)
      go_wp2
      clear c0 c2 hx4
      go_loopg [6] d.K.length (fun kq v6 w' => ∃ W, W = w' ∧ Aside0 (∃ r' d' f, RefS b sizes W r' d' ∧ RefL b w r W r' ∧ RIn sizes d' ∧ roomR sizes v f d' = roomR sizes v d.K.length d.build ∧ d'.K.length ≤ f ∧ f ≤ kq ∧ d'.room = d.room))
      case atStart => exact ⟨_, rfl, ⟨r, d.build, d.K.length, S2.out.drewN _, L2.out.trans (RefL.of_below (pw_below_drewN (Below.refl _ _) _) S2.out.size_le), ⟨HI.out.good, HI.out.KA, HI.out.len, HI.out.td⟩, rfl, Nat.le_refl _, Nat.le_refl _, rfl⟩⟩
      case round =>
        obtain ⟨W, rfl, hrel⟩ := hrel
        obtain ⟨r1, d1, f, hs, hl1, hI1, heq, hlf, hfk, hrm⟩ := hrel.out
        clear hrel
        have hg := hl1.g
        obtain ⟨A1, k1, e1, hk1, hC1, _⟩ := row_open hs.kv
        obtain ⟨A2, k2, e2, hk2, hC2, _⟩ := row_open hs.av
        obtain ⟨S, hS⟩ : ∃ S, sumS sizes d1.K d1.K.length = S := ⟨_, rfl⟩
        have hsl := sumS_le hI1.good d1.K.length (Nat.le_refl _)
        rw [hS] at hsl
        have hln := hI1.len
        have s0 : 0 ≤ S := hsl.1
        have s1 : S ≤ 1000000000 := by have := hsl.2; omega
        obtain ⟨as3, q6, hx6⟩ := Kd.at_int hs.szs i h0 h1
        rw [hv] at hx6
        have hcs : W.heap[r.g]? = some (.cells #[.int .i64 d1.room, .slice r1.pA d1.picks.length r1.pc, .slice (some as3) sizes.length r1.sc, .slice A1 d1.K.length k1, .slice A2 d1.A.length k2, .int .i64 d1.now, .int .i64 d1.tb, .int .i64 d1.td, .int .i64 d1.tp, .int .i64 d1.tm] 34 (0, 0)) := by
          rw [← hg, ← q6, ← e1, ← e2]
          exact hs.cells
        have HC : ∀ w', Below W.heap.size W w' → Calls Try.prog 19 #[.agg #[.int .i64 d1.room, .slice r1.pA d1.picks.length r1.pc, .slice (some as3) sizes.length r1.sc, .slice A1 d1.K.length k1, .slice A2 d1.A.length k2, .int .i64 d1.now, .int .i64 d1.tb, .int .i64 d1.td, .int .i64 d1.tp, .int .i64 d1.tm]] w' fun e w2 => e = .returned (.int .i64 S) ∧ Below w'.heap.size w' w2 := fun w' hb => by
          rw [← q6]
          exact refHeld_at (hs.below hb) hI1 e1 e2 hS
        have c0 : W.cell? ⟨r.g, 0, none⟩ = some (.int .i64 d1.room) := (blk_cell hcs 0).trans rfl
        have c1 : W.cell? ⟨r.g, 1, none⟩ = some (.slice r1.pA d1.picks.length r1.pc) := (blk_cell hcs 1).trans rfl
        have c2 : W.cell? ⟨r.g, 2, none⟩ = some (.slice (some as3) sizes.length r1.sc) := (blk_cell hcs 2).trans rfl
        have c3 : W.cell? ⟨r.g, 3, none⟩ = some (.slice A1 d1.K.length k1) := (blk_cell hcs 3).trans rfl
        have c4 : W.cell? ⟨r.g, 4, none⟩ = some (.slice A2 d1.A.length k2) := (blk_cell hcs 4).trans rfl
        have c5 : W.cell? ⟨r.g, 5, none⟩ = some (.int .i64 d1.now) := (blk_cell hcs 5).trans rfl
        have c6 : W.cell? ⟨r.g, 6, none⟩ = some (.int .i64 d1.tb) := (blk_cell hcs 6).trans rfl
        have c7 : W.cell? ⟨r.g, 7, none⟩ = some (.int .i64 d1.td) := (blk_cell hcs 7).trans rfl
        have c8 : W.cell? ⟨r.g, 8, none⟩ = some (.int .i64 d1.tp) := (blk_cell hcs 8).trans rfl
        have c9 : W.cell? ⟨r.g, 9, none⟩ = some (.int .i64 d1.tm) := (blk_cell hcs 9).trans rfl
        have HCELL : ∀ w', Below W.heap.size W w' → w'.cell? ⟨r.g, 0, none⟩ = some (.int .i64 d1.room) ∧ w'.cell? ⟨r.g, 1, none⟩ = some (.slice r1.pA d1.picks.length r1.pc) ∧ w'.cell? ⟨r.g, 2, none⟩ = some (.slice (some as3) sizes.length r1.sc) ∧ w'.cell? ⟨r.g, 3, none⟩ = some (.slice A1 d1.K.length k1) ∧ w'.cell? ⟨r.g, 4, none⟩ = some (.slice A2 d1.A.length k2) ∧ w'.cell? ⟨r.g, 5, none⟩ = some (.int .i64 d1.now) ∧ w'.cell? ⟨r.g, 6, none⟩ = some (.int .i64 d1.tb) ∧ w'.cell? ⟨r.g, 7, none⟩ = some (.int .i64 d1.td) ∧ w'.cell? ⟨r.g, 8, none⟩ = some (.int .i64 d1.tp) ∧ w'.cell? ⟨r.g, 9, none⟩ = some (.int .i64 d1.tm) ∧ w'.cell? (as3.add i.toNat) = some (.int .i64 v) := fun w' hb => by
          have q := fun (p : Addr) (hp : p.block < W.heap.size) => hb.cell (p := p) hp
          have hl := blk_lt hcs
          have hla : (as3.add i.toNat).block < W.heap.size := by
            rw [addB]
            exact kdC_in hs.szs (by omega) q6
          exact ⟨(q _ hl).trans c0, (q _ hl).trans c1, (q _ hl).trans c2, (q _ hl).trans c3, (q _ hl).trans c4, (q _ hl).trans c5, (q _ hl).trans c6, (q _ hl).trans c7, (q _ hl).trans c8, (q _ hl).trans c9, (q _ hla).trans hx6⟩
        have HS := Aside0.mk hs
        have HL1 := Aside0.mk hl1
        have HI1 := Aside0.mk hI1
        have HEQ := Aside0.mk heq
        have HF := Aside0.mk (And.intro hlf hfk)
        have HG := Aside0.mk hg
        have E1 := Aside0.mk e1
        have E2 := Aside0.mk e2
        have HSS := Aside0.mk hS
        have HCS := Aside0.mk hcs
        have QA := Aside0.mk q6
        have HR := Aside0.mk hrm
        clear hs hl1 hI1 heq hlf hfk hg e1 e2 hS hsl hcs q6 hC1 hC2 hk1 hk2 hln hrm
        by_cases c : S + v > d1.room
        · have d5 : decide (IntKind.i64.wrap (S + v) > d1.room) = true := by rw [IntKind.wrap_i64]; exact decide_eq_true (by omega)
          have CC := Aside0.mk c
          clear c
          go_wp2
          go_region_held3 (fun w' => w'.cell? ⟨r.g, 0, none⟩ = some (.int .i64 d1.room) ∧ w'.cell? ⟨r.g, 1, none⟩ = some (.slice r1.pA d1.picks.length r1.pc) ∧ w'.cell? ⟨r.g, 2, none⟩ = some (.slice (some as3) sizes.length r1.sc) ∧ w'.cell? ⟨r.g, 3, none⟩ = some (.slice A1 d1.K.length k1) ∧ w'.cell? ⟨r.g, 4, none⟩ = some (.slice A2 d1.A.length k2) ∧ w'.cell? ⟨r.g, 5, none⟩ = some (.int .i64 d1.now) ∧ w'.cell? ⟨r.g, 6, none⟩ = some (.int .i64 d1.tb) ∧ w'.cell? ⟨r.g, 7, none⟩ = some (.int .i64 d1.td) ∧ w'.cell? ⟨r.g, 8, none⟩ = some (.int .i64 d1.tp) ∧ w'.cell? ⟨r.g, 9, none⟩ = some (.int .i64 d1.tm) ∧ w'.cell? (as3.add i.toNat) = some (.int .i64 v)) (first | exact ⟨c0, c1, c2, c3, c4, c5, c6, c7, c8, c9, hx6⟩ | exact YC.out) (first
           | (go_at_call 19; (with_reducible refine (HC _ (by first | exact Below.refl _ _ | exact below_drew1 (Below.refl _ _))).mono ?_); rintro x w' ⟨rfl, hb7⟩
              have YC : Aside0 (w'.cell? ⟨r.g, 0, none⟩ = some (.int .i64 d1.room) ∧ w'.cell? ⟨r.g, 1, none⟩ = some (.slice r1.pA d1.picks.length r1.pc) ∧ w'.cell? ⟨r.g, 2, none⟩ = some (.slice (some as3) sizes.length r1.sc) ∧ w'.cell? ⟨r.g, 3, none⟩ = some (.slice A1 d1.K.length k1) ∧ w'.cell? ⟨r.g, 4, none⟩ = some (.slice A2 d1.A.length k2) ∧ w'.cell? ⟨r.g, 5, none⟩ = some (.int .i64 d1.now) ∧ w'.cell? ⟨r.g, 6, none⟩ = some (.int .i64 d1.tb) ∧ w'.cell? ⟨r.g, 7, none⟩ = some (.int .i64 d1.td) ∧ w'.cell? ⟨r.g, 8, none⟩ = some (.int .i64 d1.tp) ∧ w'.cell? ⟨r.g, 9, none⟩ = some (.int .i64 d1.tm) ∧ w'.cell? (as3.add i.toNat) = some (.int .i64 v)) := ⟨HCELL _ ((by first | exact Below.refl _ _ | exact below_drew1 (Below.refl _ _) : Below W.heap.size W _).trans (hb7.mono (by first | exact Nat.le_refl _ | exact Below.size (below_drew1 (Below.refl _ _)))))⟩))
          have hb8 : Below W.heap.size W w' := (by first | exact Below.refl _ _ | exact below_drew1 (Below.refl _ _) : Below W.heap.size W _).trans (hb7.mono (by first | exact Nat.le_refl _ | exact Below.size (below_drew1 (Below.refl _ _))))
          have HS7 := Aside0.mk (HS.out.below hb8)
          have HL7 := Aside0.mk (HL1.out.trans (RefL.of_below hb8 HS.out.size_le))
          have hpos : 0 < d1.K.length := by
            by_cases q : 0 < d1.K.length
            · exact q
            · have h1 := HSS.out
              rw [show d1.K.length = 0 by omega] at h1
              have h2 : (0 : Int) = S := h1
              have h3 := CC.out
              have h4 := hrv.out
              have h5 := HR.out
              omega
          have VC : Calls Try.prog 24 #[.pointer (some ⟨r.g, 0, none⟩)] w' (VicR b sizes w' r1 d1 (victimR d1) d1.picks.tail) := by
            rw [← HG.out]
            exact rvic.calls HS7.out HI1.out.KA hpos (by have := HI1.out.len; omega)
          have HVL := Aside0.mk (victimR_lt hpos)
          have HPOS := Aside0.mk hpos
          have t0 := HI1.out.td.1
          have t1 : d1.td ≤ 1000000 := by have := HI1.out.td.2; omega
          clear hb8 hpos c0 c1 c2 c3 c4 c5 c6 c7 c8 c9 hx6 YC hb7 HC HCELL HCS d5 s0 s1
          cases gk with
          | zero => exact absurd HF.out (by have := HPOS.out; omega)
          | succ q1 =>
          go_wp2_with (first
           | (go_at_call 24; (with_reducible refine VC.mono ?_); rintro x w8 ⟨rfl, ⟨g2, pA2, pc2, sA2, sc2, kv2, av2⟩, hs2, hl2⟩
              have hg2 : g2 = r.g := hl2.g.trans HG.out
              subst hg2
              obtain ⟨A3, k3, e3, hk3, hC3, _⟩ := row_open hs2.kv
              have e3' : kv2 = .slice A3 d1.K.length k3 := e3
              subst e3'
              have c3 : w8.cell? ⟨r.g, 3, none⟩ = some (.slice A3 d1.K.length k3) := (blk_cell hs2.cells 3).trans rfl
              have WC : Calls Try.prog 25 #[.slice A3 d1.K.length k3, .int .i64 (victimR d1)] w8 (RowPost (d1.K.eraseIdx (victimR d1)) w8) := without.calls A3 d1.K k3 (victimR d1) w8 hC3 hk3 (by have := HI1.out.len; omega) HVL.out
              have S8 := Aside0.mk hs2
              have L8 := Aside0.mk (HL7.out.trans hl2)
              clear hs2 hl2 e3 hk3 hC3)
           | (go_at_call 25; (with_reducible refine WC.mono ?_); rintro x w9 ⟨v9, rfl, hR, hb9⟩
              obtain ⟨A5, k5, rfl, hk5, hC5⟩ := Kd.R_reads hR
              have N3 := S8.out.rowK hR hb9
              have hc9 := (hb9.block _ S8.out.lt).trans S8.out.cells
              have x3 : w9.cell? ⟨r.g, 3, none⟩ = some (.slice A3 d1.K.length k3) := (blk_cell hc9 3).trans rfl
              have f3 : w9.frozen? ⟨r.g, 3, none⟩ = false := blk_frozen hc9 3
              obtain ⟨A4, k4, e4, hk4, hC4, _⟩ := row_open N3.1.av
              have e4' : av2 = .slice A4 d1.A.length k4 := e4
              subst e4'
              have x4 : w9.cell? ⟨r.g, 4, none⟩ = some (.slice A4 d1.A.length k4) := (blk_cell hc9 4).trans rfl
              have WC2 : Calls Try.prog 25 #[.slice A4 d1.A.length k4, .int .i64 (victimR d1)] (w9.setCell ⟨r.g, 3, none⟩ (.slice A5 (d1.K.eraseIdx (victimR d1)).length k5)) (RowPost (d1.A.eraseIdx (victimR d1)) (w9.setCell ⟨r.g, 3, none⟩ (.slice A5 (d1.K.eraseIdx (victimR d1)).length k5))) := without.calls A4 d1.A k4 (victimR d1) _ hC4 hk4 (by have := HI1.out.len; have := HI1.out.KA; omega) (by have := HVL.out; have := HI1.out.KA; omega)
              have S9 := Aside0.mk N3.1
              have L9 := Aside0.mk (L8.out.trans N3.2)
              clear N3 hc9 e4 hk4 hC4 hR hb9 hk5 hC5 c3)
           | (go_at_call 25; (with_reducible refine WC2.mono ?_); rintro x w11 ⟨v11, rfl, hR, hb11⟩
              obtain ⟨A6, k6, rfl, hk6, hC6⟩ := Kd.R_reads hR
              have N4 := S9.out.rowA hR hb11
              have hc11 := (hb11.block _ S9.out.lt).trans S9.out.cells
              have y4 : w11.cell? ⟨r.g, 4, none⟩ = some (.slice A4 d1.A.length k4) := (blk_cell hc11 4).trans rfl
              have g4 : w11.frozen? ⟨r.g, 4, none⟩ = false := blk_frozen hc11 4
              have y7 : w11.cell? ⟨r.g, 7, none⟩ = some (.int .i64 d1.td) := (blk_cell hc11 7).trans rfl
              have g7 : w11.frozen? ⟨r.g, 7, none⟩ = false := blk_frozen hc11 7
              have FIN : Aside0 (∃ r' d' f', RefS b sizes ((w11.setCell ⟨r.g, 4, none⟩ (.slice A6 (d1.A.eraseIdx (victimR d1)).length k6)).setCell ⟨r.g, 7, none⟩ (.int .i64 (d1.td + 1))) r' d' ∧ RefL b w r ((w11.setCell ⟨r.g, 4, none⟩ (.slice A6 (d1.A.eraseIdx (victimR d1)).length k6)).setCell ⟨r.g, 7, none⟩ (.int .i64 (d1.td + 1))) r' ∧ RIn sizes d' ∧ roomR sizes v f' d' = roomR sizes v d.K.length d.build ∧ d'.K.length ≤ f' ∧ f' + 1 ≤ f ∧ d'.room = d.room) := ⟨by
                have N7 := N4.1.num 7 (d1.td + 1) (dropR d1) (by simp [Rf.cs, dropR]) rfl rfl rfl
                have HD := HI1.out.drop HPOS.out
                have hf := HF.out
                have hp := HPOS.out
                have hcc := CC.out
                refine ⟨_, dropR d1, f - 1, N7.1, (L9.out.trans N4.2).trans N7.2, HD.1, ?_, by omega, by omega, HR.out⟩
                rw [← HEQ.out]
                obtain ⟨f', rfl⟩ : ∃ f', f = f' + 1 := ⟨f - 1, by omega⟩
                show _ = if _ then _ else _
                rw [HSS.out, if_pos hcc]
                rfl⟩
              clear N4 hc11 hR hb11 hk6 hC6 x3 f3 x4))
          go_roundg q1
          case measure => have := HF.out; have := HPOS.out; omega
          case rel =>
            refine ⟨_, rfl, ⟨?_⟩⟩
            obtain ⟨r', d', f', p1, p2, p3, p4, p5, p6, p7⟩ := FIN.out
            exact ⟨r', d', f', p1, p2, p3, p4, p5, by have := HF.out; omega, p7⟩
        · have d5 : decide (IntKind.i64.wrap (S + v) > d1.room) = false := by rw [IntKind.wrap_i64]; exact decide_eq_false (by omega)
          have CC := Aside0.mk c
          clear c
          go_wp2
          go_region_held3 (fun w' => w'.cell? ⟨r.g, 0, none⟩ = some (.int .i64 d1.room) ∧ w'.cell? ⟨r.g, 1, none⟩ = some (.slice r1.pA d1.picks.length r1.pc) ∧ w'.cell? ⟨r.g, 2, none⟩ = some (.slice (some as3) sizes.length r1.sc) ∧ w'.cell? ⟨r.g, 3, none⟩ = some (.slice A1 d1.K.length k1) ∧ w'.cell? ⟨r.g, 4, none⟩ = some (.slice A2 d1.A.length k2) ∧ w'.cell? ⟨r.g, 5, none⟩ = some (.int .i64 d1.now) ∧ w'.cell? ⟨r.g, 6, none⟩ = some (.int .i64 d1.tb) ∧ w'.cell? ⟨r.g, 7, none⟩ = some (.int .i64 d1.td) ∧ w'.cell? ⟨r.g, 8, none⟩ = some (.int .i64 d1.tp) ∧ w'.cell? ⟨r.g, 9, none⟩ = some (.int .i64 d1.tm) ∧ w'.cell? (as3.add i.toNat) = some (.int .i64 v)) (first | exact ⟨c0, c1, c2, c3, c4, c5, c6, c7, c8, c9, hx6⟩ | exact YC.out) (first
           | (go_at_call 19; (with_reducible refine (HC _ (by first | exact Below.refl _ _ | exact below_drew1 (Below.refl _ _))).mono ?_); rintro x w' ⟨rfl, hb7⟩
              have YC : Aside0 (w'.cell? ⟨r.g, 0, none⟩ = some (.int .i64 d1.room) ∧ w'.cell? ⟨r.g, 1, none⟩ = some (.slice r1.pA d1.picks.length r1.pc) ∧ w'.cell? ⟨r.g, 2, none⟩ = some (.slice (some as3) sizes.length r1.sc) ∧ w'.cell? ⟨r.g, 3, none⟩ = some (.slice A1 d1.K.length k1) ∧ w'.cell? ⟨r.g, 4, none⟩ = some (.slice A2 d1.A.length k2) ∧ w'.cell? ⟨r.g, 5, none⟩ = some (.int .i64 d1.now) ∧ w'.cell? ⟨r.g, 6, none⟩ = some (.int .i64 d1.tb) ∧ w'.cell? ⟨r.g, 7, none⟩ = some (.int .i64 d1.td) ∧ w'.cell? ⟨r.g, 8, none⟩ = some (.int .i64 d1.tp) ∧ w'.cell? ⟨r.g, 9, none⟩ = some (.int .i64 d1.tm) ∧ w'.cell? (as3.add i.toNat) = some (.int .i64 v)) := ⟨HCELL _ ((by first | exact Below.refl _ _ | exact below_drew1 (Below.refl _ _) : Below W.heap.size W _).trans (hb7.mono (by first | exact Nat.le_refl _ | exact Below.size (below_drew1 (Below.refl _ _)))))⟩))
          have hb8 : Below W.heap.size W w' := (by first | exact Below.refl _ _ | exact below_drew1 (Below.refl _ _) : Below W.heap.size W _).trans (hb7.mono (by first | exact Nat.le_refl _ | exact Below.size (below_drew1 (Below.refl _ _))))
          have HS7 := Aside0.mk (HS.out.below hb8)
          have HL7 := Aside0.mk (HL1.out.trans (RefL.of_below hb8 HS.out.size_le))
          have x3 := YC.out.2.2.2.1
          have HO : Aside0 (w'.ownsRow b 3 1 (.slice A1 d1.K.length k1) (nums .i64 d1.K).length (nums .i64 d1.K)) := ⟨by rw [nums_length, ← E1.out]; exact HS7.out.kv⟩
          have HBs := Aside0.mk HS7.out.size_le
          have HLN : Aside0 (((nums .i64 d1.K).length + 1) * 8 ≤ 140737488355328) := ⟨by rw [nums_length]; have := HI1.out.len; omega⟩
          have o0 := HI.out.td
          clear hb8 c0 c1 c2 c3 c4 c5 c6 c7 c8 c9 hx6 YC hb7 HC HCELL HCS d5 s0 s1
          go_wp2_with (first
           | ((with_reducible refine gate_builtin (b := .append) (xs := #[.tmp 143, .tmp 145]) rfl ?_); at_builtin; refine print_append (w0 := w') b rfl (.tmp 143) (.tmp 145) 22 3 (.int .i64 0) 8 rfl Try.underlying22 info3 rfl (by decide) (.slice A1 d1.K.length k1) (nums .i64 d1.K) (.int .i64 i) (by rfl) (by rfl) rfl HO.out (Below.refl _ _) HBs.out HLN.out ?_
              intro v1 w1 ho1 hb1 hg1 hat1
              obtain ⟨A3, k3, rfl, N1, N2, hq⟩ := HS7.out.snocK E1.out ho1 hb1 hg1 hat1
              rw [HG.out] at N1 N2 hq
              have hc0 : w'.heap[r.g]? = some (.cells (r1.cs sizes d1) 34 (0, 0)) := by rw [← HG.out]; exact HS7.out.cells
              have hc3 := hq.trans hc0
              have y3 : w1.cell? ⟨r.g, 3, none⟩ = some (.slice A1 d1.K.length k1) := by rw [← E1.out]; exact (blk_cell hc3 3).trans rfl
              have f3 : w1.frozen? ⟨r.g, 3, none⟩ = false := blk_frozen hc3 3
              have S9 := Aside0.mk N1
              have L9 := Aside0.mk (HL7.out.trans N2)
              clear N1 N2 hq hc0 hc3 ho1 hb1 hg1 hat1))
          clear y3 f3
          generalize w1.setCell ⟨r.g, 3, none⟩ (.slice A3 (d1.K.length + 1) k3) = w10 at *
          have c4 : w10.cell? ⟨r.g, 4, none⟩ = some (.slice A2 d1.A.length k2) := (blk_cell S9.out.cells 4).trans (by show some r1.av = _; rw [E2.out])
          have c5 : w10.cell? ⟨r.g, 5, none⟩ = some (.int .i64 d1.now) := (blk_cell S9.out.cells 5).trans rfl
          have c4b : (w10.alloc (.cells #[.int .i64 d1.now] 3)).cell? ⟨r.g, 4, none⟩ = some (.slice A2 d1.A.length k2) := ((below_alloc (Below.refl w10.heap.size w10) _).cell (p := ⟨r.g, 4, none⟩) (blk_lt S9.out.cells)).trans c4
          have HO2 : Aside0 (w10.drew.ownsRow b 3 1 (.slice A2 d1.A.length k2) d1.A.length (nums .i64 d1.A)) := ⟨by rw [← E2.out]; exact (S9.out.drewN 1).av⟩
          have HB2 : Aside0 (b ≤ w10.drew.heap.size) := ⟨(S9.out.drewN 1).size_le⟩
          have HL2 : Aside0 ((d1.A.length + 1) * 8 ≤ 140737488355328) := ⟨by have := HI1.out.len; have := HI1.out.KA; omega⟩
          go_region_law (refine step_append_cells (w0 := w10.drew) b (by simp [Region.wanted]) (.tmp 153) (.tmp 158) 22 3 (.int .i64 0) 1 8 rfl Try.underlying22 info3 rfl (by decide) (by decide) (.slice A2 d1.A.length k2) d1.A.length (nums .i64 d1.A) [.int .i64 d1.now] (by rfl) (by rfl) rfl (by simp [Value.oneCell']) HO2.out (Below.refl _ _) HB2.out HL2.out ?_
                         intro v2 w11 ho2 hb2 hg2 hat2
                         have ho3 : w11.ownsRow b 3 1 v2 (nums .i64 d1.A ++ [Value.int .i64 d1.now]).length (nums .i64 d1.A ++ [Value.int .i64 d1.now]) := by rw [List.length_append, nums_length]; exact ho2
                         obtain ⟨A4, k4, rfl, N1, N2, hq⟩ := (S9.out.drewN 1).snocA E2.out ho3 hb2 hg2 hat2
                         have hc3 := hq.trans (S9.out.drewN 1).cells
                         have x4 : w11.cell? ⟨r.g, 4, none⟩ = some (.slice A2 d1.A.length k2) := (blk_cell hc3 4).trans (by show some r1.av = _; rw [E2.out])
                         have f4 : w11.frozen? ⟨r.g, 4, none⟩ = false := blk_frozen hc3 4
                         have S11 := Aside0.mk N1
                         have L11 := Aside0.mk ((L9.out.trans (RefL.of_below (pw_below_drewN (Below.refl _ _) 1) S9.out.size_le)).trans N2)
                         clear N1 N2 hq hc3 ho2 ho3 hb2 hg2 hat2)
          all_goals
            go_wp2
            clear x4 f4 c4 c5 c4b
            generalize w11.setCell ⟨r.g, 4, none⟩ (.slice A4 (d1.A.length + 1) k4) = w12 at *
            have hcs : w12.heap[r.g]? = some (.cells #[.int .i64 d1.room, .slice r1.pA d1.picks.length r1.pc, .slice r1.sA sizes.length r1.sc, .slice A3 (d1.K.length + 1) k3, .slice A4 (d1.A.length + 1) k4, .int .i64 d1.now, .int .i64 d1.tb, .int .i64 d1.td, .int .i64 d1.tp, .int .i64 d1.tm] 34 (0, 0)) := S11.out.cells.trans (by simp [Rf.cs])
            have HGK : GoodK sizes (d1.K ++ [i]) := fun x hx => by
              rcases List.mem_append.1 hx with y | y
              · exact HI1.out.good x y
              · rw [List.mem_singleton.1 y, hv]
                exact ⟨h0, h1, hv0, hv1⟩
            have HC : ∀ w', Below w12.heap.size w12 w' → Calls Try.prog 19 #[.agg #[.int .i64 d1.room, .slice r1.pA d1.picks.length r1.pc, .slice r1.sA sizes.length r1.sc, .slice A3 (d1.K.length + 1) k3, .slice A4 (d1.A.length + 1) k4, .int .i64 d1.now, .int .i64 d1.tb, .int .i64 d1.td, .int .i64 d1.tp, .int .i64 d1.tm]] w' fun e w2 => e = .returned (.int .i64 (sumS sizes (d1.K ++ [i]) (d1.K ++ [i]).length)) ∧ Below w'.heap.size w' w2 := fun w' hb => by
              have := refHeld.calls (S11.out.below hb) HGK (by show (d1.K ++ [i]).length ≤ _; have := HI1.out.len; rw [List.length_append, List.length_singleton]; omega)
              exact this
            obtain ⟨S2, hS2⟩ : ∃ S2, sumS sizes (d1.K ++ [i]) (d1.K ++ [i]).length = S2 := ⟨_, rfl⟩
            rw [hS2] at HC
            have c0 : w12.cell? ⟨r.g, 0, none⟩ = some (.int .i64 d1.room) := (blk_cell hcs 0).trans rfl
            have c1 : w12.cell? ⟨r.g, 1, none⟩ = some (.slice r1.pA d1.picks.length r1.pc) := (blk_cell hcs 1).trans rfl
            have c2 : w12.cell? ⟨r.g, 2, none⟩ = some (.slice r1.sA sizes.length r1.sc) := (blk_cell hcs 2).trans rfl
            have c3 : w12.cell? ⟨r.g, 3, none⟩ = some (.slice A3 (d1.K.length + 1) k3) := (blk_cell hcs 3).trans rfl
            have c4 : w12.cell? ⟨r.g, 4, none⟩ = some (.slice A4 (d1.A.length + 1) k4) := (blk_cell hcs 4).trans rfl
            have c5 : w12.cell? ⟨r.g, 5, none⟩ = some (.int .i64 d1.now) := (blk_cell hcs 5).trans rfl
            have c6 : w12.cell? ⟨r.g, 6, none⟩ = some (.int .i64 d1.tb) := (blk_cell hcs 6).trans rfl
            have c7 : w12.cell? ⟨r.g, 7, none⟩ = some (.int .i64 d1.td) := (blk_cell hcs 7).trans rfl
            have c8 : w12.cell? ⟨r.g, 8, none⟩ = some (.int .i64 d1.tp) := (blk_cell hcs 8).trans rfl
            have c9 : w12.cell? ⟨r.g, 9, none⟩ = some (.int .i64 d1.tm) := (blk_cell hcs 9).trans rfl
            have HCELL : ∀ w', Below w12.heap.size w12 w' → w'.cell? ⟨r.g, 0, none⟩ = some (.int .i64 d1.room) ∧ w'.cell? ⟨r.g, 1, none⟩ = some (.slice r1.pA d1.picks.length r1.pc) ∧ w'.cell? ⟨r.g, 2, none⟩ = some (.slice r1.sA sizes.length r1.sc) ∧ w'.cell? ⟨r.g, 3, none⟩ = some (.slice A3 (d1.K.length + 1) k3) ∧ w'.cell? ⟨r.g, 4, none⟩ = some (.slice A4 (d1.A.length + 1) k4) ∧ w'.cell? ⟨r.g, 5, none⟩ = some (.int .i64 d1.now) ∧ w'.cell? ⟨r.g, 6, none⟩ = some (.int .i64 d1.tb) ∧ w'.cell? ⟨r.g, 7, none⟩ = some (.int .i64 d1.td) ∧ w'.cell? ⟨r.g, 8, none⟩ = some (.int .i64 d1.tp) ∧ w'.cell? ⟨r.g, 9, none⟩ = some (.int .i64 d1.tm) := fun w' hb => by
              have q := fun (p : Addr) (hp : p.block < w12.heap.size) => hb.cell (p := p) hp
              have hl := blk_lt hcs
              exact ⟨(q _ hl).trans c0, (q _ hl).trans c1, (q _ hl).trans c2, (q _ hl).trans c3, (q _ hl).trans c4, (q _ hl).trans c5, (q _ hl).trans c6, (q _ hl).trans c7, (q _ hl).trans c8, (q _ hl).trans c9⟩
            have FIN : Aside0 (∀ w' x, Below w12.heap.size w12 w' → x = max d1.tm S2 → RGot b sizes w r true (addR sizes i (roomR sizes v d.K.length d.build)) (.returned (.bool true)) (w'.setCell ⟨r.g, 9, none⟩ (.int .i64 x))) := ⟨fun w' x hb hx => by
              have hd : roomR sizes v d.K.length d.build = d1 := by
                rw [← HEQ.out]
                cases f with
                | zero => rfl
                | succ f => rw [roomR, HSS.out, if_neg (by have := CC.out; omega)]
              have N9 := (S11.out.below hb).num 9 x (addR sizes i d1) (by rw [hx, ← hS2]; simp [Rf.cs, addR]) rfl rfl rfl
              rw [hd]
              exact ⟨rfl, _, N9.1, (L11.out.trans (RefL.of_below hb S11.out.size_le)).trans N9.2⟩⟩
            have HCS := Aside0.mk hcs
            have HX : Aside0 ((if d1.tm < S2 then S2 else d1.tm) = max d1.tm S2) := ⟨by rw [Int.max_def]; split <;> split <;> omega⟩
            clear hcs hS2 HGK
            go_region_with (first
             | (go_at_call 19; (with_reducible refine (HC _ (by first | exact Below.refl _ _ | exact below_drew1 (Below.refl _ _))).mono ?_); rintro x w' ⟨rfl, hb7⟩
                have hb8 : Below w12.heap.size w12 w' := (by first | exact Below.refl _ _ | exact below_drew1 (Below.refl _ _) : Below w12.heap.size w12 _).trans (hb7.mono (by first | exact Nat.le_refl _ | exact Below.size (below_drew1 (Below.refl _ _))))
                have y9 : w'.cell? ⟨r.g, 9, none⟩ = some (.int .i64 d1.tm) := (blk_cell (blk_below HCS.out hb8) 9).trans rfl
                have f9 : w'.frozen? ⟨r.g, 9, none⟩ = false := blk_frozen (blk_below HCS.out hb8) 9
                have HB8 := Aside0.mk hb8
                clear hb8 hb7))
            all_goals
              clear c0 c1 c2 c3 c4 c5 c6 c7 c8 c9 HC HCELL
              go_wp2
              all_goals
                go_ret
                exact FIN.out _ _ HB8.out (by first | exact HX.out | omega)
end Go.Proofs.Ytfhjdhhflpekiaa.G
