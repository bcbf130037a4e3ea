/- The walk of CacheRoom. -/
import Derived.Test.YtfhjdhhflpekiaaCLaw
namespace Go.Proofs.Ytfhjdhhflpekiaa.G
open Go.RowKit Go.Proofs.Cache Go.Proofs.YtfhjdhhflpekiaaW.PrintWords Go.Proofs.YtfhjdhhflpekiaaW.PrintLast Go.Proofs.YtfhjdhhflpekiaaW.PrintMore
attribute [local go_sem] max2_int min2_int max_two min_two
set_option linter.unusedVariables false
set_option linter.unusedSimpArgs false
set_option maxHeartbeats 4000000 in
set_option maxRecDepth 100000 in
theorem room.calls (room : Int) (A1 : Option Addr) (c1 : Nat) (picks : List Int) (A2 : Option Addr) (c2 : Nat) (sizes : List Int) (A3 : Option Addr) (c3 : Nat) (gets : List Int) (w : World) (hroom : I64 room)
    (hr1 : Kd.C (Kd.int .i64) w A1 picks.length picks) (hc1 : picks.length ≤ c1) (hr2 : Kd.C (Kd.int .i64) w A2 sizes.length sizes) (hc2 : sizes.length ≤ c2) (hr3 : Kd.C (Kd.int .i64) w A3 gets.length gets) (hc3 : gets.length ≤ c3) (hg : ∀ x ∈ gets, I64 x) :
    Calls Try.prog 4 #[.int .i64 room, .slice A1 picks.length c1, .slice A2 sizes.length c2, .slice A3 gets.length c3] w fun e w' => e = .returned (.bool true) ∧ Below w.heap.size w w' := by
  have hu40 := Try.underlying40
  have hu43 := Try.underlying43
  have hu32 := Try.underlying32
  have HB := Aside0.mk (Below.refl w.heap.size w)
  have HR1 := Aside0.mk hr1
  have HR2 := Aside0.mk hr2
  have HR3 := Aside0.mk hr3
  have HC1 := Aside0.mk hc1
  have HC2 := Aside0.mk hc2
  have HC3 := Aside0.mk hc3
  have HRM := Aside0.mk hroom
  have HG := Aside0.mk hg
  clear hr1 hr2 hr3 hc1 hc2 hc3 hroom hg
  go_enter Try.func4, Try.ntmps4
  go_wp2_with (go_at_call 8; (with_reducible refine (alive.calls _).mono ?_); rintro e w1 ⟨rfl, hb⟩; replace HB := Aside0.mk (below_step HB.out hb); clear hb)
  refine (great_calls A2 c2 sizes A1 c1 picks A3 c3 gets _ (Kd.C_below HR2.out HB.out) HC2.out (Kd.C_below HR1.out HB.out) HC1.out (Kd.C_below HR3.out HB.out) HC3.out).mono ?_
  rintro e w2 ⟨r, rfl, ⟨m, rfl⟩, hgr⟩
  replace HB := Aside0.mk (pw_below_drewN HB.out m)
  cases r with
  | true =>
    go_wp2
    go_ret
    exact ⟨rfl, HB.out⟩
  | false =>
  have HGR := Aside0.mk (hgr rfl)
  clear hgr
  go_wp2_with (first
   | ((with_reducible refine gate_dst (N := 29) rfl ?_); refine box_event ?hg (N := 29) ?hd (cs := #[.slice A2 sizes.length c2]) (t := 30) ?hr ?_; (case hd => rfl); (case hg => rfl); (case hr => first | (go_simp; done) | (go_simp; rfl)); intro g29 hg w29 hbox hb; have BK29 := Aside0.mk (hbox); have GE29 := Aside0.mk (bG hg (HB.out)); replace HB := Aside0.mk (below_step (HB.out) hb); have MD : Aside0 (MadeAt w.heap.size sizes w29 g29) := ⟨⟨⟨_, _, BK29.out, HC2.out, (rd_arg HR2.out).int (.of_below HB.out)⟩⟩⟩; have NW := live_new (B := w.heap.size) (sizes := sizes) room A1 picks c1 g29 MD.out (Kd.C_below HR1.out HB.out) HC1.out (by have := HGR.out.2.1; omega) HB.out.size HRM.out; clear hb hbox hg)
   | (go_at_call 11; (with_reducible refine NW.mono ?_); rintro e w11 ⟨g, s, rfl, hlv, hb, hmu⟩; have LV := Aside0.mk hlv; replace HB := Aside0.mk (below_step HB.out hb); clear hlv hb hmu NW MD BK29 GE29))
  have hgl : (gets.length : Int) ≤ 200 := by have := HGR.out.2.2.1; omega
  go_loopg [10] gets.length (fun kq v10 w' => ∃ j : Nat, v10 = .int .i64 j ∧ ∃ W, W = w' ∧ Aside0 (j + kq = gets.length) ∧ Aside0 (∃ s, Live w.heap.size sizes W g (runP sizes (startP room picks) gets j) s) ∧ Aside0 (Below w.heap.size w W))
  case atStart => exact ⟨0, rfl, _, rfl, ⟨by omega⟩, ⟨s, LV.out⟩, HB⟩
  case round =>
    clear LV HB s
    obtain ⟨j, rfl, W, rfl, HJ1, HLV, HB⟩ := hrel
    have hj := HJ1.out
    obtain ⟨s, hlv⟩ := HLV.out
    have LV := Aside0.mk hlv
    clear hlv HLV
    by_cases hlt : j < gets.length
    · have c1 : decide ((j : Int) < (gets.length : Int)) = true := decide_eq_true (by omega)
      have i0 : 0 ≤ (j : Int) := by omega
      have i1 : (j : Int) < (gets.length : Int) := by omega
      obtain ⟨ad, rfl, hcell⟩ := Kd.at_int HR3.out (j : Int) i0 i1
      have HX : Aside0 (∀ W', Below w.heap.size w W' → W'.cell? (ad.add j) = some (.int .i64 (rd gets (j : Int)))) := ⟨fun W' hb => (cell_grow_below hb HR3.out hlt).trans hcell⟩
      have hgs := HGR.out.2.2.2
      have HS := Aside0.mk hgs
      clear hgs
      have hxm : rd gets (j : Int) ∈ gets := by
        show gets.getD (j : Int).toNat 0 ∈ gets
        rw [Int.toNat_natCast, List.getD_eq_getElem?_getD, List.getElem?_eq_getElem hlt]
        exact List.getElem_mem _
      have HXI := Aside0.mk (HG.out _ hxm)
      have hrun : runP sizes (startP room picks) gets (j + 1) = getP sizes (runP sizes (startP room picks) gets j) (rd gets (j : Int)) := by rw [runP]; rfl
      have hnow : (runP sizes (startP room picks) gets j).now = j := by rw [run_now]; show (0 : Int) + j = j; omega
      have hroo : (runP sizes (startP room picks) gets j).room = if room < 0 then 0 else room := run_room j
      have HRUN := Aside0.mk hrun
      clear hcell hxm hrun
      generalize rd gets (j : Int) = x at *
      generalize runP sizes (startP room picks) gets j = p at *
      have hinv := LV.out.inv
      have hn1 : p.now ≤ 999999 := by omega
      have hS := sums hinv (by omega)
      have hS' := sums (hinv.get (i := x) HS.out HXI.out) (by rw [getP_now]; omega)
      rw [getP_room] at hS'
      have hn2 : (getP sizes p x).now ≤ 1000000 := by rw [getP_now]; omega
      rw [hroo] at hS hS'
      have HNN := Aside0.mk hn1
      have HN2 := Aside0.mk hn2
      have HAM := amid_all p.kept x
      obtain ⟨ids, hids⟩ : ∃ l, p.kept.map (·.i) = l := ⟨_, rfl⟩
      rw [hids] at HAM
      have hlk : (ids.length : Int) ≤ 1000000 := by rw [← hids, List.length_map]; have := hinv.len; omega
      have HID := Aside0.mk hids
      have TB := tally_bad (i := x) hinv
      have TH := tally_hit (sizes := sizes) (p := p) (i := x)
      have TN := tally_new (sizes := sizes) (p := p) (i := x)
      clear hids hn1 hn2 hnow hroo hinv
      obtain ⟨rr, hrr⟩ : ∃ rr, (if room < 0 then 0 else room) = rr := ⟨_, rfl⟩
      rw [hrr] at hS hS'
      generalize hP : getP sizes p x = p' at *
      have HPP := Aside0.mk hP
      clear hP
      obtain ⟨t1, ht1⟩ : ∃ a, p.tb = a := ⟨_, rfl⟩
      obtain ⟨t2, ht2⟩ : ∃ a, p.td = a := ⟨_, rfl⟩
      obtain ⟨t3, ht3⟩ : ∃ a, p.tp = a := ⟨_, rfl⟩
      obtain ⟨t4, ht4⟩ : ∃ a, p.tm = a := ⟨_, rfl⟩
      have HE1 : Aside0 (p.tb = t1 ∧ p.td = t2 ∧ p.tp = t3 ∧ p.tm = t4) := ⟨ht1, ht2, ht3, ht4⟩
      rw [ht1, ht2, ht3, ht4] at TB TH
      rw [ht1] at TN
      have b1 := hS.b
      rw [ht1] at b1
      have b1l := b1.1
      have b1r := b1.2
      obtain ⟨ids', hids'⟩ : ∃ l, p'.kept.map (·.i) = l := ⟨_, rfl⟩
      have HID' := Aside0.mk hids'
      have hL : p'.kept.length = ids'.length := by rw [← hids', List.length_map]
      rw [hL] at hS'
      obtain ⟨hv, hhv⟩ : ∃ n, held p'.kept = n := ⟨_, rfl⟩
      have HHV := Aside0.mk hhv
      rw [hhv] at hS'
      have d1 : decide ((hv : Int) > rr) = false := decide_eq_false (by have := hS'.h; omega)
      have hLs : (ids'.length : Int) ≤ 1000000 := by have h1 := hS'.sum; have h2 := hS'.b; have h3 := hS'.d; have h4 := hS'.q; omega
      have HSS := Aside0.mk hS'
      clear ht1 ht2 ht3 ht4 b1 hids' hL hhv hS hS'
      by_cases hbd : badI sizes x = true
      · have HBD := Aside0.mk hbd
        have HE2 := Aside0.mk (TB hbd)
        have hnf : amid ids x ids.length = false := by
          rw [HAM]
          refine decide_eq_false fun c => ?_
          obtain ⟨k, hk, e⟩ := find_mem c
          rw [← e, (LV.out.inv.size k hk).1] at hbd
          cases hbd
        have HAF := Aside0.mk hnf
        clear TB TH TN HAM hbd hnf
        have g1 : decide (t4 > rr) = false := decide_eq_false (by have h1 := HSS.out.m; rw [HE2.out.2.2.2] at h1; omega)
        have s0 := HSS.out.sum
        rw [HE2.out.1, HE2.out.2.1, HE2.out.2.2.1] at s0
        have s1 : ((t1 : Int) == t2 + t3 + (ids'.length : Int)) = true := beq_iff_eq.mpr s0
        have s2 : ((t1 : Int) != t2 + t3 + (ids'.length : Int)) = false := bne_eq_false_iff_eq.mpr s0
        have v2 : 0 ≤ t2 := by have h1 := HSS.out.d; rw [HE2.out.2.1] at h1; exact h1.1
        have w2_ : t2 ≤ 1000000 := by have h1 := HSS.out.d; rw [HE2.out.2.1] at h1; exact h1.2
        have v3 : 0 ≤ t3 := by have h1 := HSS.out.q; rw [HE2.out.2.2.1] at h1; exact h1.1
        have w3_ : t3 ≤ 1000000 := by have h1 := HSS.out.q; rw [HE2.out.2.2.1] at h1; exact h1.2
        clear s0
        have N1 := tally_same t1 t2 t3 t4
        cases gk with
        | zero => omega
        | succ k1 =>
         go_wp2_with (first
           | (go_at_call 17; (with_reducible refine (LV.out.kept_as (by have := HNN.out; omega) HID.out).mono ?_); rintro e w17 ⟨A, ca, rfl, hca, hb, hC⟩; replace LV := Aside0.mk (LV.out.below hb); have HK := Aside0.mk (hC w.heap.size); replace HB := Aside0.mk (below_step (HB.out) hb); clear hb hC)
           | (go_at_call 20; (with_reducible refine (LV.out.tally_as HE1.out).mono ?_); rintro e wt ⟨rfl, hb⟩; replace LV := Aside0.mk (LV.out.below hb); replace HK := Aside0.mk (HK.out.int (.of_below hb)); replace HB := Aside0.mk (below_step (HB.out) hb); clear hb)
           | ((with_reducible refine gate_dst (N := 12) rfl ?_); refine box_event ?hg (N := 12) ?hd (cs := #[.int .i64 0, .int .i64 0, .int .i64 0, .int .i64 0]) (t := 32) ?hr ?_; (case hd => rfl); (case hg => rfl); (case hr => first | (go_simp; done) | (go_simp; rfl)); intro g12 hg w12 hbox hb; have BK12 := Aside0.mk (hbox); have GE12 := Aside0.mk (bG hg (HB.out)); replace LV := Aside0.mk (LV.out.below hb); replace HK := Aside0.mk (HK.out.int (.of_below hb)); replace HB := Aside0.mk (below_step (HB.out) hb); clear hb hbox hg)
           | ((with_reducible refine gate_store2 (t := 32) (x := .tmp 12) (y := .tmp 43) rfl ?_); refine ev_row (B := w.heap.size) (w0 := w) rfl 32 (.tmp 12) (.tmp 43) rfl rfl g12 #[.int .i64 t1, .int .i64 t2, .int .i64 t3, .int .i64 t4] ?hx ?hy 32 _ BK12.out (by kernel_rfl) rfl (by simp [Value.oneCell', Msh.mesh, Msh.tree]) HB.out GE12.out ?_; (case hx => first | (go_simp; done) | rfl); (case hy => first | (go_simp; done) | rfl | (go_simp; rfl)); intro w13 hbox hb hk; have hsz_ := size_of_but BK12.out hbox hk; replace LV := Aside0.mk (LV.out.but BK12.out (.inr (.inr (.inl rfl))) GE12.out hsz_ hk); replace HK := Aside0.mk (HK.out.int (.of_but BK12.out rfl GE12.out hsz_ hk)); replace BK12 := Aside0.mk hbox; replace HB := Aside0.mk hb; have x13 := HX.out w13 hb; clear hbox hb hk hsz_)
           | (go_at_call 13; (with_reducible refine (LV.out.get_bad HS.out HXI.out HBD.out HNN.out).mono ?_); rintro e w14 ⟨s', rfl, hgt⟩; replace BK12 := Aside0.mk (kept_blk hgt.left BK12.out (by decide) LV.out.at_); replace HK := Aside0.mk (HK.out.int (Left.still LV.out.at_ hgt.left)); replace HB := Aside0.mk (HB.out.trans hgt.left.frame.below); replace LV := Aside0.mk hgt.live; rw [HPP.out] at LV; clear hgt)
           | ((with_reducible refine gate_dst (N := 13) rfl ?_); refine box_event ?hg (N := 13) ?hd (cs := #[.slice none 0 0, .slice none 0 0, .slice none 0 0]) (t := 40) ?hr ?_; (case hd => rfl); (case hg => rfl); (case hr => first | (go_simp; done) | (go_simp; rfl)); intro g13 hg w15 hbox hb; have BK13 := Aside0.mk (hbox); have GE13 := Aside0.mk (bG hg (HB.out)); have NE12_13 := cN hg BK12; replace BK12 := cB hb BK12; replace LV := Aside0.mk (LV.out.below hb); replace HK := Aside0.mk (HK.out.int (.of_below hb)); replace HB := Aside0.mk (below_step (HB.out) hb); clear hb hbox hg)
           | ((with_reducible refine gate_dst (N := 14) rfl ?_); refine box_event ?hg (N := 14) ?hd (cs := #[.slice none 0 0, .slice none 0 0]) (t := 43) ?hr ?_; (case hd => rfl); (case hg => rfl); (case hr => first | (go_simp; done) | (go_simp; rfl)); intro g14 hg w16 hbox hb; have BK14 := Aside0.mk (hbox); have GE14 := Aside0.mk (bG hg (HB.out)); have NE12_14 := cN hg BK12; have NE13_14 := cN hg BK13; replace BK12 := cB hb BK12; replace BK13 := cB hb BK13; replace LV := Aside0.mk (LV.out.below hb); replace HK := Aside0.mk (HK.out.int (.of_below hb)); replace HB := Aside0.mk (below_step (HB.out) hb); clear hb hbox hg)
           | ((with_reducible refine gate_store2 (t := 40) (x := .tmp 13) (y := .tmp 51) rfl ?_); refine ev_row (B := w.heap.size) (w0 := w) rfl 40 (.tmp 13) (.tmp 51) rfl rfl g13 #[.slice none 0 0, .slice none 0 0, .slice none 0 0] ?hx ?hy 40 _ BK13.out (by kernel_rfl) rfl (by simp [Value.oneCell', Msh.mesh, Msh.tree]) HB.out GE13.out ?_; (case hx => first | (go_simp; done) | rfl); (case hy => first | (go_simp; done) | rfl | (go_simp; rfl)); intro w18 hbox hb hk; have hsz_ := size_of_but BK13.out hbox hk; replace LV := Aside0.mk (LV.out.but BK13.out (.inl rfl) GE13.out hsz_ hk); replace HK := Aside0.mk (HK.out.int (.of_but BK13.out rfl GE13.out hsz_ hk)); replace BK13 := Aside0.mk hbox; replace HB := Aside0.mk hb; replace BK12 := Aside0.mk ((hk _ NE12_13.out).trans BK12.out); replace BK14 := Aside0.mk ((hk _ (Ne.symm NE13_14.out)).trans BK14.out); clear hbox hb hk hsz_)
           | ((with_reducible refine gate_store2 (t := 43) (x := .tmp 14) (y := .tmp 52) rfl ?_); refine ev_row (B := w.heap.size) (w0 := w) rfl 43 (.tmp 14) (.tmp 52) rfl rfl g14 #[.slice none 0 0, .slice none 0 0] ?hx ?hy 43 _ BK14.out (by kernel_rfl) rfl (by simp [Value.oneCell', Msh.mesh, Msh.tree]) HB.out GE14.out ?_; (case hx => first | (go_simp; done) | rfl); (case hy => first | (go_simp; done) | rfl | (go_simp; rfl)); intro w19 hbox hb hk; have hsz_ := size_of_but BK14.out hbox hk; replace LV := Aside0.mk (LV.out.but BK14.out (.inr (.inl rfl)) GE14.out hsz_ hk); replace HK := Aside0.mk (HK.out.int (.of_but BK14.out rfl GE14.out hsz_ hk)); replace BK14 := Aside0.mk hbox; replace HB := Aside0.mk hb; replace BK12 := Aside0.mk ((hk _ NE12_14.out).trans BK12.out); replace BK13 := Aside0.mk ((hk _ NE13_14.out).trans BK13.out); clear hbox hb hk hsz_)
           | (go_at_call 20; (with_reducible refine (LV.out.tally_as HE2.out).mono ?_); rintro e wu ⟨rfl, hb⟩; replace BK12 := cB hb BK12; replace LV := Aside0.mk (LV.out.below hb); replace HK := Aside0.mk (HK.out.int (.of_below hb)); replace HB := Aside0.mk (below_step (HB.out) hb); clear hb)
           | ((with_reducible refine gate_dst (N := 16) rfl ?_); refine box_event ?hg (N := 16) ?hd (cs := #[.int .i64 0, .int .i64 0, .int .i64 0, .int .i64 0]) (t := 32) ?hr ?_; (case hd => rfl); (case hg => rfl); (case hr => first | (go_simp; done) | (go_simp; rfl)); intro g16 hg w20 hbox hb; have BK16 := Aside0.mk (hbox); have GE16 := Aside0.mk (bG hg (HB.out)); have NE12_16 := cN hg BK12; replace BK12 := cB hb BK12; replace LV := Aside0.mk (LV.out.below hb); replace HK := Aside0.mk (HK.out.int (.of_below hb)); replace HB := Aside0.mk (below_step (HB.out) hb); clear hb hbox hg)
           | ((with_reducible refine gate_store2 (t := 32) (x := .tmp 16) (y := .tmp 55) rfl ?_); refine ev_row (B := w.heap.size) (w0 := w) rfl 32 (.tmp 16) (.tmp 55) rfl rfl g16 #[.int .i64 (t1), .int .i64 t2, .int .i64 t3, .int .i64 t4] ?hx ?hy 32 _ BK16.out (by kernel_rfl) rfl (by simp [Value.oneCell', Msh.mesh, Msh.tree]) HB.out GE16.out ?_; (case hx => first | (go_simp; done) | rfl); (case hy => first | (go_simp; done) | rfl | (go_simp; rfl)); intro w21 hbox hb hk; have hsz_ := size_of_but BK16.out hbox hk; replace LV := Aside0.mk (LV.out.but BK16.out (.inr (.inr (.inl rfl))) GE16.out hsz_ hk); replace HK := Aside0.mk (HK.out.int (.of_but BK16.out rfl GE16.out hsz_ hk)); replace BK16 := Aside0.mk hbox; replace HB := Aside0.mk hb; replace BK12 := Aside0.mk ((hk _ NE12_16.out).trans BK12.out); clear hbox hb hk hsz_))
         have hcx := HX.out w21 HB.out
         have a0 : w21.cell? ⟨g16, 0, none⟩ = some (.int .i64 (t1)) := (blk_cell BK16.out 0).trans rfl
         have a1 : w21.cell? ⟨g16, 1, none⟩ = some (.int .i64 t2) := (blk_cell BK16.out 1).trans rfl
         have a2 : w21.cell? ⟨g16, 2, none⟩ = some (.int .i64 t3) := (blk_cell BK16.out 2).trans rfl
         have a3 : w21.cell? ⟨g16, 3, none⟩ = some (.int .i64 t4) := (blk_cell BK16.out 3).trans rfl
         have z0 : w21.cell? ⟨g12, 0, none⟩ = some (.int .i64 t1) := (blk_cell BK12.out 0).trans rfl
         have z1 : w21.cell? ⟨g12, 1, none⟩ = some (.int .i64 t2) := (blk_cell BK12.out 1).trans rfl
         have z2 : w21.cell? ⟨g12, 2, none⟩ = some (.int .i64 t3) := (blk_cell BK12.out 2).trans rfl
         have z3 : w21.cell? ⟨g12, 3, none⟩ = some (.int .i64 t4) := (blk_cell BK12.out 3).trans rfl
         go_loopg [17, 18] ids.length (fun kq v17 v18 w' => ∃ k : Nat, v18 = .int .i64 k ∧ v17 = .bool (amid ids x k) ∧ Aside0 (k + kq = ids.length) ∧ ∃ n, w' = w21.drewN n)
         case atStart => exact ⟨0, rfl, rfl, ⟨by omega⟩, 0, rfl⟩
         case round =>
          obtain ⟨k, rfl, rfl, HJ2, ⟨n, rfl⟩⟩ := hrel
          have hj2 := HJ2.out
          by_cases hk : k < ids.length
          · have e1 : decide ((k : Int) < (ids.length : Int)) = true := decide_eq_true (by omega)
            have k0 : 0 ≤ (k : Int) := by omega
            have k9 : (k : Int) < (ids.length : Int) := by omega
            obtain ⟨ad2, e2, hc2⟩ := Kd.at_int HK.out.1 (k : Int) k0 k9
            cases e2
            rw [Int.toNat_natCast] at hc2
            have hst : amid ids x (k + 1) = (amid ids x k || (rd ids (k : Int) == x)) := by rw [amid_step ids x k hk]; rfl
            have HST := Aside0.mk hst
            clear hst
            generalize rd ids (k : Int) = y at *
            cases gk with
            | zero => omega
            | succ k2 =>
             cases hb : amid ids x k with
             | true =>
              rw [hb] at HST
              clear hb
              go_wp2
              go_quiet (fail)
              go_wp2
              go_roundg k2
              case measure => omega
              case rel => exact ⟨k + 1, by simp, by rw [HST.out]; rfl, ⟨by omega⟩, by first | exact ⟨_, rfl⟩ | exact ⟨_, (World.drewN_drewN _ _ _).symm⟩ | exact ⟨_, World.drewN_drewN _ _ _⟩⟩
             | false =>
              rw [hb] at HST
              clear hb
              go_wp2
              go_quiet (fail)
              go_wp2
              go_roundg k2
              case measure => omega
              case rel => exact ⟨k + 1, by simp, by rw [HST.out]; rfl, ⟨by omega⟩, by first | exact ⟨_, rfl⟩ | exact ⟨_, (World.drewN_drewN _ _ _).symm⟩ | exact ⟨_, World.drewN_drewN _ _ _⟩⟩
          · have e1 : decide ((k : Int) < (ids.length : Int)) = false := decide_eq_false (by omega)
            have e2 : k = ids.length := by omega
            subst e2
            rw [HAF.out]
            have HDn : ∀ n, Calls Try.prog 18 #[.pointer (some ⟨g, 0, none⟩)] (w21.drewN n) fun x w' => x = .returned (.int .i64 hv) ∧ w' = w21.drewN n := fun n => (LV.out.drewN n).held_as HN2.out HHV.out
            go_wp2_with (go_at_call 18; (with_reducible refine (HDn _).mono ?_); rintro e w22 ⟨rfl, rfl⟩)
            have KPc : ∀ n, Calls Try.prog 17 #[.pointer (some ⟨g, 0, none⟩)] (w21.drewN n) (KeptPost ids' (w21.drewN n)) := fun n => (LV.out.drewN n).kept_as HN2.out HID'.out
            have ew : IntKind.i64.wrap (IntKind.i64.wrap (t2 + t3) + (ids'.length : Int)) = t2 + t3 + (ids'.length : Int) := by
              rw [IntKind.wrap_i64, IntKind.wrap_i64]
              omega
            have s4 : ((t1 : Int) != IntKind.i64.wrap (IntKind.i64.wrap (t2 + t3) + (ids'.length : Int))) = false := by rw [ew]; exact s2
            clear ew
            have SA := Aside0.mk (And.intro a0 (And.intro a1 a2))
            go_region_held3 (fun w' => w'.cell? ⟨g16, 0, none⟩ = some (.int .i64 (t1)) ∧ w'.cell? ⟨g16, 1, none⟩ = some (.int .i64 t2) ∧ w'.cell? ⟨g16, 2, none⟩ = some (.int .i64 t3)) (first | exact SA.out | exact YC.out) (first
             | (go_at_call 17; (with_reducible refine (KPc _).mono ?_); rintro e w30 ⟨A2', ca2, rfl, hca2, hb30, hC30⟩
                have bb := blk_below (w := w21.drewN _) BK16.out hb30
                have YC : Aside0 (w30.cell? ⟨g16, 0, none⟩ = some (.int .i64 (t1)) ∧ w30.cell? ⟨g16, 1, none⟩ = some (.int .i64 t2) ∧ w30.cell? ⟨g16, 2, none⟩ = some (.int .i64 t3)) := ⟨(blk_cell bb 0).trans rfl, (blk_cell bb 1).trans rfl, (blk_cell bb 2).trans rfl⟩
                have LVF := Aside0.mk ((LV.out.drewN _).below (w1 := w30) hb30)
                have HBF := Aside0.mk (below_step (pw_below_drewN HB.out _) hb30)
                clear bb hb30 hC30 hca2))
            go_wp2
            go_roundg k1
            case measure => omega
            case rel => exact ⟨j + 1, by simp, _, rfl, ⟨by omega⟩, ⟨by rw [HRUN.out]; exact ⟨_, LVF.out⟩⟩, ⟨HBF.out⟩⟩
      · have hbd' : badI sizes x = false := by simpa using hbd
        have HBD := Aside0.mk hbd'
        by_cases hf : findI p.kept x < p.kept.length
        · have HE2 := Aside0.mk (TH hf)
          have hnf : amid ids x ids.length = true := by rw [HAM]; exact decide_eq_true hf
          have HAF := Aside0.mk hnf
          clear TB TH TN HAM hbd hbd' hnf hf
          have g1 : decide (t4 > rr) = false := decide_eq_false (by have h1 := HSS.out.m; rw [HE2.out.2.2.2] at h1; omega)
          have s0 := HSS.out.sum
          rw [HE2.out.1, HE2.out.2.1, HE2.out.2.2.1] at s0
          have s1 : ((t1 : Int) == t2 + t3 + (ids'.length : Int)) = true := beq_iff_eq.mpr s0
          have s2 : ((t1 : Int) != t2 + t3 + (ids'.length : Int)) = false := bne_eq_false_iff_eq.mpr s0
          have v2 : 0 ≤ t2 := by have h1 := HSS.out.d; rw [HE2.out.2.1] at h1; exact h1.1
          have w2_ : t2 ≤ 1000000 := by have h1 := HSS.out.d; rw [HE2.out.2.1] at h1; exact h1.2
          have v3 : 0 ≤ t3 := by have h1 := HSS.out.q; rw [HE2.out.2.2.1] at h1; exact h1.1
          have w3_ : t3 ≤ 1000000 := by have h1 := HSS.out.q; rw [HE2.out.2.2.1] at h1; exact h1.2
          clear s0
          have N1 := tally_same t1 t2 t3 t4
          cases gk with
          | zero => omega
          | succ k1 =>
           go_wp2_with (first
             | (go_at_call 17; (with_reducible refine (LV.out.kept_as (by have := HNN.out; omega) HID.out).mono ?_); rintro e w17 ⟨A, ca, rfl, hca, hb, hC⟩; replace LV := Aside0.mk (LV.out.below hb); have HK := Aside0.mk (hC w.heap.size); replace HB := Aside0.mk (below_step (HB.out) hb); clear hb hC)
             | (go_at_call 20; (with_reducible refine (LV.out.tally_as HE1.out).mono ?_); rintro e wt ⟨rfl, hb⟩; replace LV := Aside0.mk (LV.out.below hb); replace HK := Aside0.mk (HK.out.int (.of_below hb)); replace HB := Aside0.mk (below_step (HB.out) hb); clear hb)
             | ((with_reducible refine gate_dst (N := 12) rfl ?_); refine box_event ?hg (N := 12) ?hd (cs := #[.int .i64 0, .int .i64 0, .int .i64 0, .int .i64 0]) (t := 32) ?hr ?_; (case hd => rfl); (case hg => rfl); (case hr => first | (go_simp; done) | (go_simp; rfl)); intro g12 hg w12 hbox hb; have BK12 := Aside0.mk (hbox); have GE12 := Aside0.mk (bG hg (HB.out)); replace LV := Aside0.mk (LV.out.below hb); replace HK := Aside0.mk (HK.out.int (.of_below hb)); replace HB := Aside0.mk (below_step (HB.out) hb); clear hb hbox hg)
             | ((with_reducible refine gate_store2 (t := 32) (x := .tmp 12) (y := .tmp 43) rfl ?_); refine ev_row (B := w.heap.size) (w0 := w) rfl 32 (.tmp 12) (.tmp 43) rfl rfl g12 #[.int .i64 t1, .int .i64 t2, .int .i64 t3, .int .i64 t4] ?hx ?hy 32 _ BK12.out (by kernel_rfl) rfl (by simp [Value.oneCell', Msh.mesh, Msh.tree]) HB.out GE12.out ?_; (case hx => first | (go_simp; done) | rfl); (case hy => first | (go_simp; done) | rfl | (go_simp; rfl)); intro w13 hbox hb hk; have hsz_ := size_of_but BK12.out hbox hk; replace LV := Aside0.mk (LV.out.but BK12.out (.inr (.inr (.inl rfl))) GE12.out hsz_ hk); replace HK := Aside0.mk (HK.out.int (.of_but BK12.out rfl GE12.out hsz_ hk)); replace BK12 := Aside0.mk hbox; replace HB := Aside0.mk hb; have x13 := HX.out w13 hb; clear hbox hb hk hsz_)
             | (go_at_call 13; (with_reducible refine (LV.out.get_ok HS.out HXI.out HBD.out HNN.out).mono ?_); rintro e w14 ⟨m, s', hmi, hmn, rfl, hms, hgt⟩; replace BK12 := Aside0.mk (kept_blk hgt.left BK12.out (by decide) LV.out.at_); replace HK := Aside0.mk (HK.out.int (Left.still LV.out.at_ hgt.left)); replace HB := Aside0.mk (HB.out.trans hgt.left.frame.below); replace LV := Aside0.mk hgt.live; rw [HPP.out] at LV; clear hgt)
             | ((with_reducible refine gate_dst (N := 13) rfl ?_); refine box_event ?hg (N := 13) ?hd (cs := #[.slice none 0 0, .slice none 0 0, .slice none 0 0]) (t := 40) ?hr ?_; (case hd => rfl); (case hg => rfl); (case hr => first | (go_simp; done) | (go_simp; rfl)); intro g13 hg w15 hbox hb; have BK13 := Aside0.mk (hbox); have GE13 := Aside0.mk (bG hg (HB.out)); have NE12_13 := cN hg BK12; replace BK12 := cB hb BK12; replace LV := Aside0.mk (LV.out.below hb); replace HK := Aside0.mk (HK.out.int (.of_below hb)); replace HB := Aside0.mk (below_step (HB.out) hb); clear hb hbox hg)
             | ((with_reducible refine gate_dst (N := 14) rfl ?_); refine box_event ?hg (N := 14) ?hd (cs := #[.slice none 0 0, .slice none 0 0]) (t := 43) ?hr ?_; (case hd => rfl); (case hg => rfl); (case hr => first | (go_simp; done) | (go_simp; rfl)); intro g14 hg w16 hbox hb; have BK14 := Aside0.mk (hbox); have GE14 := Aside0.mk (bG hg (HB.out)); have NE12_14 := cN hg BK12; have NE13_14 := cN hg BK13; replace BK12 := cB hb BK12; replace BK13 := cB hb BK13; replace LV := Aside0.mk (LV.out.below hb); replace HK := Aside0.mk (HK.out.int (.of_below hb)); replace HB := Aside0.mk (below_step (HB.out) hb); clear hb hbox hg)
             | ((with_reducible refine gate_store2 (t := 40) (x := .tmp 13) (y := .tmp 51) rfl ?_); refine ev_row (B := w.heap.size) (w0 := w) rfl 40 (.tmp 13) (.tmp 51) rfl rfl g13 m.mesh ?hx ?hy 40 _ BK13.out (by kernel_rfl) rfl (by simp [Value.oneCell', Msh.mesh, Msh.tree]) HB.out GE13.out ?_; (case hx => first | (go_simp; done) | rfl); (case hy => first | (go_simp; done) | rfl | (go_simp; rfl)); intro w18 hbox hb hk; have hsz_ := size_of_but BK13.out hbox hk; replace LV := Aside0.mk (LV.out.but BK13.out (.inl rfl) GE13.out hsz_ hk); replace HK := Aside0.mk (HK.out.int (.of_but BK13.out rfl GE13.out hsz_ hk)); replace BK13 := Aside0.mk hbox; replace HB := Aside0.mk hb; replace BK12 := Aside0.mk ((hk _ NE12_13.out).trans BK12.out); replace BK14 := Aside0.mk ((hk _ (Ne.symm NE13_14.out)).trans BK14.out); clear hbox hb hk hsz_)
             | ((with_reducible refine gate_store2 (t := 43) (x := .tmp 14) (y := .tmp 52) rfl ?_); refine ev_row (B := w.heap.size) (w0 := w) rfl 43 (.tmp 14) (.tmp 52) rfl rfl g14 m.tree ?hx ?hy 43 _ BK14.out (by kernel_rfl) rfl (by simp [Value.oneCell', Msh.mesh, Msh.tree]) HB.out GE14.out ?_; (case hx => first | (go_simp; done) | rfl); (case hy => first | (go_simp; done) | rfl | (go_simp; rfl)); intro w19 hbox hb hk; have hsz_ := size_of_but BK14.out hbox hk; replace LV := Aside0.mk (LV.out.but BK14.out (.inr (.inl rfl)) GE14.out hsz_ hk); replace HK := Aside0.mk (HK.out.int (.of_but BK14.out rfl GE14.out hsz_ hk)); replace BK14 := Aside0.mk hbox; replace HB := Aside0.mk hb; replace BK12 := Aside0.mk ((hk _ NE12_14.out).trans BK12.out); replace BK13 := Aside0.mk ((hk _ NE13_14.out).trans BK13.out); clear hbox hb hk hsz_)
             | (go_at_call 20; (with_reducible refine (LV.out.tally_as HE2.out).mono ?_); rintro e wu ⟨rfl, hb⟩; replace BK12 := cB hb BK12; replace LV := Aside0.mk (LV.out.below hb); replace HK := Aside0.mk (HK.out.int (.of_below hb)); replace HB := Aside0.mk (below_step (HB.out) hb); clear hb)
             | ((with_reducible refine gate_dst (N := 16) rfl ?_); refine box_event ?hg (N := 16) ?hd (cs := #[.int .i64 0, .int .i64 0, .int .i64 0, .int .i64 0]) (t := 32) ?hr ?_; (case hd => rfl); (case hg => rfl); (case hr => first | (go_simp; done) | (go_simp; rfl)); intro g16 hg w20 hbox hb; have BK16 := Aside0.mk (hbox); have GE16 := Aside0.mk (bG hg (HB.out)); have NE12_16 := cN hg BK12; replace BK12 := cB hb BK12; replace LV := Aside0.mk (LV.out.below hb); replace HK := Aside0.mk (HK.out.int (.of_below hb)); replace HB := Aside0.mk (below_step (HB.out) hb); clear hb hbox hg)
             | ((with_reducible refine gate_store2 (t := 32) (x := .tmp 16) (y := .tmp 55) rfl ?_); refine ev_row (B := w.heap.size) (w0 := w) rfl 32 (.tmp 16) (.tmp 55) rfl rfl g16 #[.int .i64 (t1), .int .i64 t2, .int .i64 t3, .int .i64 t4] ?hx ?hy 32 _ BK16.out (by kernel_rfl) rfl (by simp [Value.oneCell', Msh.mesh, Msh.tree]) HB.out GE16.out ?_; (case hx => first | (go_simp; done) | rfl); (case hy => first | (go_simp; done) | rfl | (go_simp; rfl)); intro w21 hbox hb hk; have hsz_ := size_of_but BK16.out hbox hk; replace LV := Aside0.mk (LV.out.but BK16.out (.inr (.inr (.inl rfl))) GE16.out hsz_ hk); replace HK := Aside0.mk (HK.out.int (.of_but BK16.out rfl GE16.out hsz_ hk)); replace BK16 := Aside0.mk hbox; replace HB := Aside0.mk hb; replace BK12 := Aside0.mk ((hk _ NE12_16.out).trans BK12.out); clear hbox hb hk hsz_))
           have hcx := HX.out w21 HB.out
           have a0 : w21.cell? ⟨g16, 0, none⟩ = some (.int .i64 (t1)) := (blk_cell BK16.out 0).trans rfl
           have a1 : w21.cell? ⟨g16, 1, none⟩ = some (.int .i64 t2) := (blk_cell BK16.out 1).trans rfl
           have a2 : w21.cell? ⟨g16, 2, none⟩ = some (.int .i64 t3) := (blk_cell BK16.out 2).trans rfl
           have a3 : w21.cell? ⟨g16, 3, none⟩ = some (.int .i64 t4) := (blk_cell BK16.out 3).trans rfl
           have z0 : w21.cell? ⟨g12, 0, none⟩ = some (.int .i64 t1) := (blk_cell BK12.out 0).trans rfl
           have z1 : w21.cell? ⟨g12, 1, none⟩ = some (.int .i64 t2) := (blk_cell BK12.out 1).trans rfl
           have z2 : w21.cell? ⟨g12, 2, none⟩ = some (.int .i64 t3) := (blk_cell BK12.out 2).trans rfl
           have z3 : w21.cell? ⟨g12, 3, none⟩ = some (.int .i64 t4) := (blk_cell BK12.out 3).trans rfl
           go_loopg [17, 18] ids.length (fun kq v17 v18 w' => ∃ k : Nat, v18 = .int .i64 k ∧ v17 = .bool (amid ids x k) ∧ Aside0 (k + kq = ids.length) ∧ ∃ n, w' = w21.drewN n)
           case atStart => exact ⟨0, rfl, rfl, ⟨by omega⟩, 0, rfl⟩
           case round =>
            obtain ⟨k, rfl, rfl, HJ2, ⟨n, rfl⟩⟩ := hrel
            have hj2 := HJ2.out
            by_cases hk : k < ids.length
            · have e1 : decide ((k : Int) < (ids.length : Int)) = true := decide_eq_true (by omega)
              have k0 : 0 ≤ (k : Int) := by omega
              have k9 : (k : Int) < (ids.length : Int) := by omega
              obtain ⟨ad2, e2, hc2⟩ := Kd.at_int HK.out.1 (k : Int) k0 k9
              cases e2
              rw [Int.toNat_natCast] at hc2
              have hst : amid ids x (k + 1) = (amid ids x k || (rd ids (k : Int) == x)) := by rw [amid_step ids x k hk]; rfl
              have HST := Aside0.mk hst
              clear hst
              generalize rd ids (k : Int) = y at *
              cases gk with
              | zero => omega
              | succ k2 =>
               cases hb : amid ids x k with
               | true =>
                rw [hb] at HST
                clear hb
                go_wp2
                go_quiet (fail)
                go_wp2
                go_roundg k2
                case measure => omega
                case rel => exact ⟨k + 1, by simp, by rw [HST.out]; rfl, ⟨by omega⟩, by first | exact ⟨_, rfl⟩ | exact ⟨_, (World.drewN_drewN _ _ _).symm⟩ | exact ⟨_, World.drewN_drewN _ _ _⟩⟩
               | false =>
                rw [hb] at HST
                clear hb
                go_wp2
                go_quiet (fail)
                go_wp2
                go_roundg k2
                case measure => omega
                case rel => exact ⟨k + 1, by simp, by rw [HST.out]; rfl, ⟨by omega⟩, by first | exact ⟨_, rfl⟩ | exact ⟨_, (World.drewN_drewN _ _ _).symm⟩ | exact ⟨_, World.drewN_drewN _ _ _⟩⟩
            · have e1 : decide ((k : Int) < (ids.length : Int)) = false := decide_eq_false (by omega)
              have e2 : k = ids.length := by omega
              subst e2
              rw [HAF.out]
              have HDn : ∀ n, Calls Try.prog 18 #[.pointer (some ⟨g, 0, none⟩)] (w21.drewN n) fun x w' => x = .returned (.int .i64 hv) ∧ w' = w21.drewN n := fun n => (LV.out.drewN n).held_as HN2.out HHV.out
              go_wp2_with (go_at_call 18; (with_reducible refine (HDn _).mono ?_); rintro e w22 ⟨rfl, rfl⟩)
              have KPc : ∀ n, Calls Try.prog 17 #[.pointer (some ⟨g, 0, none⟩)] (w21.drewN n) (KeptPost ids' (w21.drewN n)) := fun n => (LV.out.drewN n).kept_as HN2.out HID'.out
              have ew : IntKind.i64.wrap (IntKind.i64.wrap (t2 + t3) + (ids'.length : Int)) = t2 + t3 + (ids'.length : Int) := by
                rw [IntKind.wrap_i64, IntKind.wrap_i64]
                omega
              have s4 : ((t1 : Int) != IntKind.i64.wrap (IntKind.i64.wrap (t2 + t3) + (ids'.length : Int))) = false := by rw [ew]; exact s2
              clear ew
              have SA := Aside0.mk (And.intro a0 (And.intro a1 a2))
              go_region_held3 (fun w' => w'.cell? ⟨g16, 0, none⟩ = some (.int .i64 (t1)) ∧ w'.cell? ⟨g16, 1, none⟩ = some (.int .i64 t2) ∧ w'.cell? ⟨g16, 2, none⟩ = some (.int .i64 t3)) (first | exact SA.out | exact YC.out) (first
               | (go_at_call 17; (with_reducible refine (KPc _).mono ?_); rintro e w30 ⟨A2', ca2, rfl, hca2, hb30, hC30⟩
                  have bb := blk_below (w := w21.drewN _) BK16.out hb30
                  have YC : Aside0 (w30.cell? ⟨g16, 0, none⟩ = some (.int .i64 (t1)) ∧ w30.cell? ⟨g16, 1, none⟩ = some (.int .i64 t2) ∧ w30.cell? ⟨g16, 2, none⟩ = some (.int .i64 t3)) := ⟨(blk_cell bb 0).trans rfl, (blk_cell bb 1).trans rfl, (blk_cell bb 2).trans rfl⟩
                  have LVF := Aside0.mk ((LV.out.drewN _).below (w1 := w30) hb30)
                  have HBF := Aside0.mk (below_step (pw_below_drewN HB.out _) hb30)
                  clear bb hb30 hC30 hca2))
              go_wp2
              go_roundg k1
              case measure => omega
              case rel => exact ⟨j + 1, by simp, _, rfl, ⟨by omega⟩, ⟨by rw [HRUN.out]; exact ⟨_, LVF.out⟩⟩, ⟨HBF.out⟩⟩
        · obtain ⟨u2, hu2⟩ : ∃ a, p'.td = a := ⟨_, rfl⟩
          obtain ⟨u3, hu3⟩ : ∃ a, p'.tp = a := ⟨_, rfl⟩
          obtain ⟨u4, hu4⟩ : ∃ a, p'.tm = a := ⟨_, rfl⟩
          have HE2 : Aside0 (p'.tb = t1 + 1 ∧ p'.td = u2 ∧ p'.tp = u3 ∧ p'.tm = u4) := ⟨TN hf hbd', hu2, hu3, hu4⟩
          have hnf : amid ids x ids.length = false := by rw [HAM]; exact decide_eq_false hf
          have HAF := Aside0.mk hnf
          clear TB TH TN HAM hbd hbd' hnf hf hu2 hu3 hu4
          have g1 : decide (u4 > rr) = false := decide_eq_false (by have h1 := HSS.out.m; rw [HE2.out.2.2.2] at h1; omega)
          have s0 := HSS.out.sum
          rw [HE2.out.1, HE2.out.2.1, HE2.out.2.2.1] at s0
          have s1 : ((t1 + 1 : Int) == u2 + u3 + (ids'.length : Int)) = true := beq_iff_eq.mpr s0
          have s2 : ((t1 + 1 : Int) != u2 + u3 + (ids'.length : Int)) = false := bne_eq_false_iff_eq.mpr s0
          have v2 : 0 ≤ u2 := by have h1 := HSS.out.d; rw [HE2.out.2.1] at h1; exact h1.1
          have w2_ : u2 ≤ 1000000 := by have h1 := HSS.out.d; rw [HE2.out.2.1] at h1; exact h1.2
          have v3 : 0 ≤ u3 := by have h1 := HSS.out.q; rw [HE2.out.2.2.1] at h1; exact h1.1
          have w3_ : u3 ≤ 1000000 := by have h1 := HSS.out.q; rw [HE2.out.2.2.1] at h1; exact h1.2
          clear s0
          have N1 := tally_same t1 t2 t3 t4
          cases gk with
          | zero => omega
          | succ k1 =>
           go_wp2_with (first
             | (go_at_call 17; (with_reducible refine (LV.out.kept_as (by have := HNN.out; omega) HID.out).mono ?_); rintro e w17 ⟨A, ca, rfl, hca, hb, hC⟩; replace LV := Aside0.mk (LV.out.below hb); have HK := Aside0.mk (hC w.heap.size); replace HB := Aside0.mk (below_step (HB.out) hb); clear hb hC)
             | (go_at_call 20; (with_reducible refine (LV.out.tally_as HE1.out).mono ?_); rintro e wt ⟨rfl, hb⟩; replace LV := Aside0.mk (LV.out.below hb); replace HK := Aside0.mk (HK.out.int (.of_below hb)); replace HB := Aside0.mk (below_step (HB.out) hb); clear hb)
             | ((with_reducible refine gate_dst (N := 12) rfl ?_); refine box_event ?hg (N := 12) ?hd (cs := #[.int .i64 0, .int .i64 0, .int .i64 0, .int .i64 0]) (t := 32) ?hr ?_; (case hd => rfl); (case hg => rfl); (case hr => first | (go_simp; done) | (go_simp; rfl)); intro g12 hg w12 hbox hb; have BK12 := Aside0.mk (hbox); have GE12 := Aside0.mk (bG hg (HB.out)); replace LV := Aside0.mk (LV.out.below hb); replace HK := Aside0.mk (HK.out.int (.of_below hb)); replace HB := Aside0.mk (below_step (HB.out) hb); clear hb hbox hg)
             | ((with_reducible refine gate_store2 (t := 32) (x := .tmp 12) (y := .tmp 43) rfl ?_); refine ev_row (B := w.heap.size) (w0 := w) rfl 32 (.tmp 12) (.tmp 43) rfl rfl g12 #[.int .i64 t1, .int .i64 t2, .int .i64 t3, .int .i64 t4] ?hx ?hy 32 _ BK12.out (by kernel_rfl) rfl (by simp [Value.oneCell', Msh.mesh, Msh.tree]) HB.out GE12.out ?_; (case hx => first | (go_simp; done) | rfl); (case hy => first | (go_simp; done) | rfl | (go_simp; rfl)); intro w13 hbox hb hk; have hsz_ := size_of_but BK12.out hbox hk; replace LV := Aside0.mk (LV.out.but BK12.out (.inr (.inr (.inl rfl))) GE12.out hsz_ hk); replace HK := Aside0.mk (HK.out.int (.of_but BK12.out rfl GE12.out hsz_ hk)); replace BK12 := Aside0.mk hbox; replace HB := Aside0.mk hb; have x13 := HX.out w13 hb; clear hbox hb hk hsz_)
             | (go_at_call 13; (with_reducible refine (LV.out.get_ok HS.out HXI.out HBD.out HNN.out).mono ?_); rintro e w14 ⟨m, s', hmi, hmn, rfl, hms, hgt⟩; replace BK12 := Aside0.mk (kept_blk hgt.left BK12.out (by decide) LV.out.at_); replace HK := Aside0.mk (HK.out.int (Left.still LV.out.at_ hgt.left)); replace HB := Aside0.mk (HB.out.trans hgt.left.frame.below); replace LV := Aside0.mk hgt.live; rw [HPP.out] at LV; clear hgt)
             | ((with_reducible refine gate_dst (N := 13) rfl ?_); refine box_event ?hg (N := 13) ?hd (cs := #[.slice none 0 0, .slice none 0 0, .slice none 0 0]) (t := 40) ?hr ?_; (case hd => rfl); (case hg => rfl); (case hr => first | (go_simp; done) | (go_simp; rfl)); intro g13 hg w15 hbox hb; have BK13 := Aside0.mk (hbox); have GE13 := Aside0.mk (bG hg (HB.out)); have NE12_13 := cN hg BK12; replace BK12 := cB hb BK12; replace LV := Aside0.mk (LV.out.below hb); replace HK := Aside0.mk (HK.out.int (.of_below hb)); replace HB := Aside0.mk (below_step (HB.out) hb); clear hb hbox hg)
             | ((with_reducible refine gate_dst (N := 14) rfl ?_); refine box_event ?hg (N := 14) ?hd (cs := #[.slice none 0 0, .slice none 0 0]) (t := 43) ?hr ?_; (case hd => rfl); (case hg => rfl); (case hr => first | (go_simp; done) | (go_simp; rfl)); intro g14 hg w16 hbox hb; have BK14 := Aside0.mk (hbox); have GE14 := Aside0.mk (bG hg (HB.out)); have NE12_14 := cN hg BK12; have NE13_14 := cN hg BK13; replace BK12 := cB hb BK12; replace BK13 := cB hb BK13; replace LV := Aside0.mk (LV.out.below hb); replace HK := Aside0.mk (HK.out.int (.of_below hb)); replace HB := Aside0.mk (below_step (HB.out) hb); clear hb hbox hg)
             | ((with_reducible refine gate_store2 (t := 40) (x := .tmp 13) (y := .tmp 51) rfl ?_); refine ev_row (B := w.heap.size) (w0 := w) rfl 40 (.tmp 13) (.tmp 51) rfl rfl g13 m.mesh ?hx ?hy 40 _ BK13.out (by kernel_rfl) rfl (by simp [Value.oneCell', Msh.mesh, Msh.tree]) HB.out GE13.out ?_; (case hx => first | (go_simp; done) | rfl); (case hy => first | (go_simp; done) | rfl | (go_simp; rfl)); intro w18 hbox hb hk; have hsz_ := size_of_but BK13.out hbox hk; replace LV := Aside0.mk (LV.out.but BK13.out (.inl rfl) GE13.out hsz_ hk); replace HK := Aside0.mk (HK.out.int (.of_but BK13.out rfl GE13.out hsz_ hk)); replace BK13 := Aside0.mk hbox; replace HB := Aside0.mk hb; replace BK12 := Aside0.mk ((hk _ NE12_13.out).trans BK12.out); replace BK14 := Aside0.mk ((hk _ (Ne.symm NE13_14.out)).trans BK14.out); clear hbox hb hk hsz_)
             | ((with_reducible refine gate_store2 (t := 43) (x := .tmp 14) (y := .tmp 52) rfl ?_); refine ev_row (B := w.heap.size) (w0 := w) rfl 43 (.tmp 14) (.tmp 52) rfl rfl g14 m.tree ?hx ?hy 43 _ BK14.out (by kernel_rfl) rfl (by simp [Value.oneCell', Msh.mesh, Msh.tree]) HB.out GE14.out ?_; (case hx => first | (go_simp; done) | rfl); (case hy => first | (go_simp; done) | rfl | (go_simp; rfl)); intro w19 hbox hb hk; have hsz_ := size_of_but BK14.out hbox hk; replace LV := Aside0.mk (LV.out.but BK14.out (.inr (.inl rfl)) GE14.out hsz_ hk); replace HK := Aside0.mk (HK.out.int (.of_but BK14.out rfl GE14.out hsz_ hk)); replace BK14 := Aside0.mk hbox; replace HB := Aside0.mk hb; replace BK12 := Aside0.mk ((hk _ NE12_14.out).trans BK12.out); replace BK13 := Aside0.mk ((hk _ NE13_14.out).trans BK13.out); clear hbox hb hk hsz_)
             | (go_at_call 20; (with_reducible refine (LV.out.tally_as HE2.out).mono ?_); rintro e wu ⟨rfl, hb⟩; replace BK12 := cB hb BK12; replace LV := Aside0.mk (LV.out.below hb); replace HK := Aside0.mk (HK.out.int (.of_below hb)); replace HB := Aside0.mk (below_step (HB.out) hb); clear hb)
             | ((with_reducible refine gate_dst (N := 16) rfl ?_); refine box_event ?hg (N := 16) ?hd (cs := #[.int .i64 0, .int .i64 0, .int .i64 0, .int .i64 0]) (t := 32) ?hr ?_; (case hd => rfl); (case hg => rfl); (case hr => first | (go_simp; done) | (go_simp; rfl)); intro g16 hg w20 hbox hb; have BK16 := Aside0.mk (hbox); have GE16 := Aside0.mk (bG hg (HB.out)); have NE12_16 := cN hg BK12; replace BK12 := cB hb BK12; replace LV := Aside0.mk (LV.out.below hb); replace HK := Aside0.mk (HK.out.int (.of_below hb)); replace HB := Aside0.mk (below_step (HB.out) hb); clear hb hbox hg)
             | ((with_reducible refine gate_store2 (t := 32) (x := .tmp 16) (y := .tmp 55) rfl ?_); refine ev_row (B := w.heap.size) (w0 := w) rfl 32 (.tmp 16) (.tmp 55) rfl rfl g16 #[.int .i64 (t1 + 1), .int .i64 u2, .int .i64 u3, .int .i64 u4] ?hx ?hy 32 _ BK16.out (by kernel_rfl) rfl (by simp [Value.oneCell', Msh.mesh, Msh.tree]) HB.out GE16.out ?_; (case hx => first | (go_simp; done) | rfl); (case hy => first | (go_simp; done) | rfl | (go_simp; rfl)); intro w21 hbox hb hk; have hsz_ := size_of_but BK16.out hbox hk; replace LV := Aside0.mk (LV.out.but BK16.out (.inr (.inr (.inl rfl))) GE16.out hsz_ hk); replace HK := Aside0.mk (HK.out.int (.of_but BK16.out rfl GE16.out hsz_ hk)); replace BK16 := Aside0.mk hbox; replace HB := Aside0.mk hb; replace BK12 := Aside0.mk ((hk _ NE12_16.out).trans BK12.out); clear hbox hb hk hsz_))
           have hcx := HX.out w21 HB.out
           have a0 : w21.cell? ⟨g16, 0, none⟩ = some (.int .i64 (t1 + 1)) := (blk_cell BK16.out 0).trans rfl
           have a1 : w21.cell? ⟨g16, 1, none⟩ = some (.int .i64 u2) := (blk_cell BK16.out 1).trans rfl
           have a2 : w21.cell? ⟨g16, 2, none⟩ = some (.int .i64 u3) := (blk_cell BK16.out 2).trans rfl
           have a3 : w21.cell? ⟨g16, 3, none⟩ = some (.int .i64 u4) := (blk_cell BK16.out 3).trans rfl
           have z0 : w21.cell? ⟨g12, 0, none⟩ = some (.int .i64 t1) := (blk_cell BK12.out 0).trans rfl
           have z1 : w21.cell? ⟨g12, 1, none⟩ = some (.int .i64 t2) := (blk_cell BK12.out 1).trans rfl
           have z2 : w21.cell? ⟨g12, 2, none⟩ = some (.int .i64 t3) := (blk_cell BK12.out 2).trans rfl
           have z3 : w21.cell? ⟨g12, 3, none⟩ = some (.int .i64 t4) := (blk_cell BK12.out 3).trans rfl
           go_loopg [17, 18] ids.length (fun kq v17 v18 w' => ∃ k : Nat, v18 = .int .i64 k ∧ v17 = .bool (amid ids x k) ∧ Aside0 (k + kq = ids.length) ∧ ∃ n, w' = w21.drewN n)
           case atStart => exact ⟨0, rfl, rfl, ⟨by omega⟩, 0, rfl⟩
           case round =>
            obtain ⟨k, rfl, rfl, HJ2, ⟨n, rfl⟩⟩ := hrel
            have hj2 := HJ2.out
            by_cases hk : k < ids.length
            · have e1 : decide ((k : Int) < (ids.length : Int)) = true := decide_eq_true (by omega)
              have k0 : 0 ≤ (k : Int) := by omega
              have k9 : (k : Int) < (ids.length : Int) := by omega
              obtain ⟨ad2, e2, hc2⟩ := Kd.at_int HK.out.1 (k : Int) k0 k9
              cases e2
              rw [Int.toNat_natCast] at hc2
              have hst : amid ids x (k + 1) = (amid ids x k || (rd ids (k : Int) == x)) := by rw [amid_step ids x k hk]; rfl
              have HST := Aside0.mk hst
              clear hst
              generalize rd ids (k : Int) = y at *
              cases gk with
              | zero => omega
              | succ k2 =>
               cases hb : amid ids x k with
               | true =>
                rw [hb] at HST
                clear hb
                go_wp2
                go_quiet (fail)
                go_wp2
                go_roundg k2
                case measure => omega
                case rel => exact ⟨k + 1, by simp, by rw [HST.out]; rfl, ⟨by omega⟩, by first | exact ⟨_, rfl⟩ | exact ⟨_, (World.drewN_drewN _ _ _).symm⟩ | exact ⟨_, World.drewN_drewN _ _ _⟩⟩
               | false =>
                rw [hb] at HST
                clear hb
                go_wp2
                go_quiet (fail)
                go_wp2
                go_roundg k2
                case measure => omega
                case rel => exact ⟨k + 1, by simp, by rw [HST.out]; rfl, ⟨by omega⟩, by first | exact ⟨_, rfl⟩ | exact ⟨_, (World.drewN_drewN _ _ _).symm⟩ | exact ⟨_, World.drewN_drewN _ _ _⟩⟩
            · have e1 : decide ((k : Int) < (ids.length : Int)) = false := decide_eq_false (by omega)
              have e2 : k = ids.length := by omega
              subst e2
              rw [HAF.out]
              have HDn : ∀ n, Calls Try.prog 18 #[.pointer (some ⟨g, 0, none⟩)] (w21.drewN n) fun x w' => x = .returned (.int .i64 hv) ∧ w' = w21.drewN n := fun n => (LV.out.drewN n).held_as HN2.out HHV.out
              go_wp2_with (go_at_call 18; (with_reducible refine (HDn _).mono ?_); rintro e w22 ⟨rfl, rfl⟩)
              have KPc : ∀ n, Calls Try.prog 17 #[.pointer (some ⟨g, 0, none⟩)] (w21.drewN n) (KeptPost ids' (w21.drewN n)) := fun n => (LV.out.drewN n).kept_as HN2.out HID'.out
              have ew : IntKind.i64.wrap (IntKind.i64.wrap (u2 + u3) + (ids'.length : Int)) = u2 + u3 + (ids'.length : Int) := by
                rw [IntKind.wrap_i64, IntKind.wrap_i64]
                omega
              have s4 : ((t1 + 1 : Int) != IntKind.i64.wrap (IntKind.i64.wrap (u2 + u3) + (ids'.length : Int))) = false := by rw [ew]; exact s2
              clear ew
              have SA := Aside0.mk (And.intro a0 (And.intro a1 a2))
              go_region_held3 (fun w' => w'.cell? ⟨g16, 0, none⟩ = some (.int .i64 (t1 + 1)) ∧ w'.cell? ⟨g16, 1, none⟩ = some (.int .i64 u2) ∧ w'.cell? ⟨g16, 2, none⟩ = some (.int .i64 u3)) (first | exact SA.out | exact YC.out) (first
               | (go_at_call 17; (with_reducible refine (KPc _).mono ?_); rintro e w30 ⟨A2', ca2, rfl, hca2, hb30, hC30⟩
                  have bb := blk_below (w := w21.drewN _) BK16.out hb30
                  have YC : Aside0 (w30.cell? ⟨g16, 0, none⟩ = some (.int .i64 (t1 + 1)) ∧ w30.cell? ⟨g16, 1, none⟩ = some (.int .i64 u2) ∧ w30.cell? ⟨g16, 2, none⟩ = some (.int .i64 u3)) := ⟨(blk_cell bb 0).trans rfl, (blk_cell bb 1).trans rfl, (blk_cell bb 2).trans rfl⟩
                  have LVF := Aside0.mk ((LV.out.drewN _).below (w1 := w30) hb30)
                  have HBF := Aside0.mk (below_step (pw_below_drewN HB.out _) hb30)
                  clear bb hb30 hC30 hca2))
              go_wp2
              go_roundg k1
              case measure => omega
              case rel => exact ⟨j + 1, by simp, _, rfl, ⟨by omega⟩, ⟨by rw [HRUN.out]; exact ⟨_, LVF.out⟩⟩, ⟨HBF.out⟩⟩
    · have c1 : decide ((j : Int) < (gets.length : Int)) = false := decide_eq_false (by omega)
      go_wp2
      go_ret
      exact ⟨rfl, HB.out⟩
end Go.Proofs.Ytfhjdhhflpekiaa.G
