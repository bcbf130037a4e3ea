/- The walk of CacheSteps. -/
import Derived.Test.YtfhjdhhflpekiaaCBA
namespace Go.Proofs.Ytfhjdhhflpekiaa.G
open Go.RowKit Go.Proofs.Cache Go.Proofs.YtfhjdhhflpekiaaW.PrintWords Go.Proofs.YtfhjdhhflpekiaaW.PrintLast Go.Proofs.YtfhjdhhflpekiaaW.PrintMore
set_option linter.unusedVariables false
set_option linter.unusedSimpArgs false
set_option maxHeartbeats 4000000 in
set_option maxRecDepth 100000 in
theorem steps.calls (room : Int) (A1 : Option Addr) (c1 : Nat) (picks : List Int) (A2 : Option Addr) (c2 : Nat) (sizes : List Int) (A3 : Option Addr) (c3 : Nat) (gets : List Int) (w : World) (hroom : I64 room)
    (hr1 : Kd.C (Kd.int .i64) w A1 picks.length picks) (hc1 : picks.length ≤ c1) (hr2 : Kd.C (Kd.int .i64) w A2 sizes.length sizes) (hc2 : sizes.length ≤ c2) (hr3 : Kd.C (Kd.int .i64) w A3 gets.length gets) (hc3 : gets.length ≤ c3) (hg : ∀ x ∈ gets, I64 x) :
    Calls Try.prog 3 #[.int .i64 room, .slice A1 picks.length c1, .slice A2 sizes.length c2, .slice A3 gets.length c3] w fun e w' => e = .returned (.bool true) ∧ Below w.heap.size w w' := by
  have hu40 := Try.underlying40
  have hu43 := Try.underlying43
  have hu32 := Try.underlying32
  have hu34 := Try.underlying34
  have HB := Aside0.mk (Below.refl w.heap.size w)
  have HR1 := Aside0.mk hr1
  have HR2 := Aside0.mk hr2
  have HR3 := Aside0.mk hr3
  have HC1 := Aside0.mk hc1
  have HC2 := Aside0.mk hc2
  have HC3 := Aside0.mk hc3
  have HRM := Aside0.mk hroom
  have HG := Aside0.mk hg
  clear hr1 hr2 hr3 hc1 hc2 hc3 hroom hg
  go_enter Try.func3, Try.ntmps3
  go_wp2_with (go_at_call 8; (with_reducible refine (alive.calls _).mono ?_); rintro e w1 ⟨rfl, hb⟩; replace HB := Aside0.mk (below_step HB.out hb); clear hb)
  refine (great_calls A2 c2 sizes A1 c1 picks A3 c3 gets _ (Kd.C_below HR2.out HB.out) HC2.out (Kd.C_below HR1.out HB.out) HC1.out (Kd.C_below HR3.out HB.out) HC3.out).mono ?_
  rintro e w2 ⟨r, rfl, ⟨m, rfl⟩, hgr⟩
  replace HB := Aside0.mk (pw_below_drewN HB.out m)
  cases r with
  | true =>
    go_wp2
    go_ret
    exact ⟨rfl, HB.out⟩
  | false =>
  have HGR := Aside0.mk (hgr rfl)
  clear hgr
  have hpl : picks.length ≤ 1000000 := by have := HGR.out.2.1; omega
  have hsl : sizes.length ≤ 1000000 := by have := HGR.out.1; omega
  have HPL := Aside0.mk hpl
  have HSL := Aside0.mk hsl
  have RNF := fun a b => refnew_eq room picks sizes a b
  obtain ⟨rm, hrm⟩ : ∃ rm, (if room < 0 then 0 else room) = rm := ⟨_, rfl⟩
  rw [hrm] at RNF
  have RNE := Aside0.mk (RNF hpl hsl)
  have RM := Aside0.mk hrm
  clear hpl hsl RNF hrm
  go_wp2_with (first
   | (go_at_call 10; (with_reducible refine (relievoref00_CopyInts.calls A1 c1 picks picks _ (Kd.C_below HR1.out HB.out) HC1.out (copy_eq picks HPL.out)).mono ?_); rintro e w3 ⟨v3, rfl, hR, hb⟩; obtain ⟨A9, c9, rfl, hc9, hC9⟩ := Kd.R_reads hR; have OC := Aside0.mk hC9; have OCC := Aside0.mk hc9; replace HB := Aside0.mk (below_step HB.out hb); clear hR hb hc9 hC9)
   | (go_at_call 10; (with_reducible refine (relievoref00_CopyInts.calls A2 c2 sizes sizes _ (Kd.C_below HR2.out HB.out) HC2.out (copy_eq sizes HSL.out)).mono ?_); rintro e w4 ⟨v4, rfl, hR, hb⟩; obtain ⟨A10, c10, rfl, hc10, hC10⟩ := Kd.R_reads hR; have SC := Aside0.mk hC10; have SCC := Aside0.mk hc10; replace OC := Aside0.mk (Kd.C_below OC.out hb); replace HB := Aside0.mk (below_step HB.out hb); clear hR hb hc10 hC10)
   | ((with_reducible refine gate_dst (N := 30) rfl ?_); refine box_event ?hg (N := 30) ?hd (cs := #[.slice A10 sizes.length c10]) (t := 30) ?hr ?_; (case hd => rfl); (case hg => rfl); (case hr => first | (go_simp; done) | (go_simp; rfl)); intro g30 hg w5 hbox hb; have BK30 := Aside0.mk (hbox); have GE30 := Aside0.mk (bG hg (HB.out)); replace OC := Aside0.mk (Kd.C_below OC.out hb); replace SC := Aside0.mk (Kd.C_below SC.out hb); replace HB := Aside0.mk (below_step (HB.out) hb); have MD : Aside0 (MadeAt ⟨w5.heap.size, fun _ => False⟩ sizes w5 g30) := ⟨⟨⟨_, _, BK30.out, SCC.out, rd_arg SC.out⟩⟩⟩; have NW : Calls Try.prog 11 #[.int .i64 room, .slice A9 picks.length c9, .iface 28 (.pointer (some ⟨g30, 0, none⟩))] w5 (LiveNew ⟨w5.heap.size, fun _ => False⟩ sizes room picks w5) := live_new (B := ⟨w5.heap.size, fun _ => False⟩) (sizes := sizes) room A9 picks c9 g30 MD.out OC.out OCC.out HPL.out (Nat.le_refl _) HRM.out (fun _ h => h); clear hb hbox hg)
   | (go_at_call 11; (with_reducible refine NW.mono ?_); rintro e w11 ⟨g, s, rfl, hlv, hb, hmu⟩; have LV := Aside0.mk hlv; have H5 := Aside0.mk hb; clear hlv hb hmu NW MD BK30 GE30)
   | (go_at_call 12; (with_reducible refine (relievoref17_New.calls room A1 c1 picks A2 c2 sizes _ _ _ _ _ _ _ _ _ _ _ (Kd.C_below HR1.out (HB.out.trans (H5.out.mono HB.out.size))) HC1.out (Kd.C_below HR2.out (HB.out.trans (H5.out.mono HB.out.size))) HC2.out RNE.out).mono ?_); rintro e w12 ⟨v1, v2, v3, v4, rfl, R1, R2, R3, R4, hb⟩; obtain ⟨Ap, cp, rfl, hcp, hCp⟩ := Kd.R_reads R1; obtain ⟨As, cs, rfl, hcs, hCs⟩ := Kd.R_reads R2; obtain ⟨Ak, ck, rfl, hck, hCk⟩ := Kd.R_reads R3; obtain ⟨Aa, ca, rfl, hca, hCa⟩ := Kd.R_reads R4; have RR1 := Aside0.mk R1; have RR2 := Aside0.mk R2; have RR3 := Aside0.mk R3; have RR4 := Aside0.mk R4; have H12 := Aside0.mk hb; replace HB := Aside0.mk HB.out; clear R1 R2 R3 R4 hcp hCp hcs hCs hck hCk hca hCa hb)
   | ((with_reducible refine gate_dst (N := 11) rfl ?_); refine box_event ?hg (N := 11) ?hd (cs := #[.int .i64 0, .slice none 0 0, .slice none 0 0, .slice none 0 0, .slice none 0 0, .int .i64 0, .int .i64 0, .int .i64 0, .int .i64 0, .int .i64 0]) (t := 34) ?hr ?_; (case hd => rfl); (case hg => rfl); (case hr => first | (go_simp; done) | (go_simp; rfl)); intro g11 hg w13 hbox hb; have BK11 := Aside0.mk (hbox); have H13 := Aside0.mk hb; have G11 := Aside0.mk hg; clear hb hbox hg)
   | ((with_reducible refine gate_store2 (t := 34) (x := .tmp 11) (y := .tmp 38) rfl ?_); refine ev_row (B := w12.heap.size) (w0 := w12) rfl 34 (.tmp 11) (.tmp 38) rfl rfl g11 #[.int .i64 rm, .slice Ap picks.length cp, .slice As sizes.length cs, .slice Ak 0 ck, .slice Aa 0 ca, .int .i64 0, .int .i64 0, .int .i64 0, .int .i64 0, .int .i64 0] ?hx ?hy 34 _ BK11.out (by kernel_rfl) rfl (by simp [Value.oneCell']) H13.out (Nat.le_of_eq G11.out.symm) ?_; (case hx => first | (go_simp; done) | rfl); (case hy => first | (go_simp; done) | rfl | (go_simp; rfl)); intro w14 hbox hb hk; have BO : Aside0 (Both w5.heap.size sizes w14 g (startP room picks) s ⟨g11, Ap, cp, As, cs, .slice Ak 0 ck, .slice Aa 0 ca⟩ (startP room picks)) := ⟨both_new LV.out H5.out.size H12.out RR1.out RR2.out RR3.out RR4.out hb.size (fun k q => hb.block k q) (Nat.le_of_eq G11.out.symm) (by rw [RM.out]; exact hbox)⟩; have H14 : Aside0 (Below w5.heap.size w5 w14) := ⟨(H5.out.trans (H12.out.mono H5.out.size)).trans (hb.mono (Nat.le_trans H5.out.size H12.out.size))⟩; clear hbox hb hk RR1 RR2 RR3 RR4 H12 H13 G11 BK11 H5 LV))
  have hgl : (gets.length : Int) ≤ 200 := by have := HGR.out.2.2.1; omega
  have HW5 := Aside0.mk HB.out
  clear HB
  go_loopg [12] gets.length (fun kq v12 w' => ∃ j : Nat, v12 = .int .i64 j ∧ ∃ W, W = w' ∧ Aside0 (j + kq = gets.length) ∧ Aside0 (∃ s r, r.g = g11 ∧ Both w5.heap.size sizes W g (runP sizes (startP room picks) gets j) s r (runP sizes (startP room picks) gets j)) ∧ Aside0 (Below w5.heap.size w5 W))
  case atStart => exact ⟨0, rfl, _, rfl, ⟨by omega⟩, ⟨s, _, rfl, BO.out⟩, H14⟩
  case round =>
    clear BO H14 s
    obtain ⟨j, rfl, W, rfl, HJ1, HBO, HB⟩ := hrel
    have hj := HJ1.out
    obtain ⟨s, ⟨g', pA, pc, sA, sc, kv, av⟩, hg', hbo⟩ := HBO.out
    have hg2 : g11 = g' := hg'.symm
    subst hg2
    have BO := Aside0.mk hbo
    clear hbo HBO hg'
    by_cases hlt : j < gets.length
    · have e1 : decide ((j : Int) < (gets.length : Int)) = true := decide_eq_true (by omega)
      have i0 : 0 ≤ (j : Int) := by omega
      have i1 : (j : Int) < (gets.length : Int) := by omega
      obtain ⟨ad, rfl, hcell⟩ := Kd.at_int HR3.out (j : Int) i0 i1
      have HX : Aside0 (∀ W', Below w5.heap.size w5 W' → W'.cell? (ad.add j) = some (.int .i64 (rd gets (j : Int)))) := ⟨fun W' hb => (cell_grow_below (HW5.out.trans (hb.mono HW5.out.size)) HR3.out hlt).trans hcell⟩
      have hgs := HGR.out.2.2.2
      have HS := Aside0.mk hgs
      clear hgs
      have hxm : rd gets (j : Int) ∈ gets := by
        show gets.getD (j : Int).toNat 0 ∈ gets
        rw [Int.toNat_natCast, List.getD_eq_getElem?_getD, List.getElem?_eq_getElem hlt]
        exact List.getElem_mem _
      have HXI := Aside0.mk (HG.out _ hxm)
      have hrun : runP sizes (startP room picks) gets (j + 1) = getP sizes (runP sizes (startP room picks) gets j) (rd gets (j : Int)) := by rw [runP]; rfl
      have hnow : (runP sizes (startP room picks) gets j).now = j := by rw [run_now]; show (0 : Int) + j = j; omega
      have HRUN := Aside0.mk hrun
      clear hcell hxm hrun
      generalize rd gets (j : Int) = x at *
      generalize runP sizes (startP room picks) gets j = p at *
      have HN : Aside0 (p.now ≤ 1000) := ⟨by omega⟩
      have x0 := HX.out W HB.out
      clear hnow
      cases gk with
      | zero => omega
      | succ k1 =>
      have INV := Aside0.mk BO.out.live.inv
      go_wp2_with (first
         | (go_at_call 13; (with_reducible refine (BO.out.get HS.out HXI.out (by have := HN.out; omega)).mono ?_); rintro e w13 ⟨vA, vl, vc, tA, tl, tc, iA, il, ic, c, s1, rfl, han, hrt, hce, hbo, hb⟩; replace HB := Aside0.mk (HB.out.trans hb); replace BO := Aside0.mk hbo; have AN := Aside0.mk han; have RT := Aside0.mk hrt; have CE := Aside0.mk hce; clear hbo han hrt hce hb)
         | ((with_reducible refine gate_dst (N := 13) rfl ?_); refine box_event ?hg (N := 13) ?hd (cs := #[.slice none 0 0, .slice none 0 0, .slice none 0 0]) (t := 40) ?hr ?_; (case hd => rfl); (case hg => rfl); (case hr => first | (go_simp; done) | (go_simp; rfl)); intro g13 hg w14 hbox hb; have BK13 := Aside0.mk (hbox); have GE13 := Aside0.mk (bG hg (HB.out)); replace BO := Aside0.mk (BO.out.below hb); replace AN := Aside0.mk (AN.out.move (.of_below hb)); replace HB := Aside0.mk (below_step (HB.out) hb); clear hb hbox hg)
         | ((with_reducible refine gate_dst (N := 14) rfl ?_); refine box_event ?hg (N := 14) ?hd (cs := #[.slice none 0 0, .slice none 0 0]) (t := 43) ?hr ?_; (case hd => rfl); (case hg => rfl); (case hr => first | (go_simp; done) | (go_simp; rfl)); intro g14 hg w15 hbox hb; have BK14 := Aside0.mk (hbox); have GE14 := Aside0.mk (bG hg (HB.out)); replace BO := Aside0.mk (BO.out.below hb); replace AN := Aside0.mk (AN.out.move (.of_below hb)); have NE13_14 := cN hg BK13; replace BK13 := cB hb BK13; replace HB := Aside0.mk (below_step (HB.out) hb); clear hb hbox hg)
         | ((with_reducible refine gate_store2 (t := 40) (x := .tmp 13) (y := .tmp 52) rfl ?_); refine ev_row (B := w5.heap.size) (w0 := w5) rfl 40 (.tmp 13) (.tmp 52) rfl rfl g13 #[.slice vA vl.length vc, .slice none 0 0, .slice tA tl.length tc] ?hx ?hy 40 _ BK13.out (by kernel_rfl) rfl (by simp [Value.oneCell', Msh.mesh, Msh.tree]) HB.out GE13.out ?_; (case hx => first | (go_simp; done) | rfl); (case hy => first | (go_simp; done) | rfl | (go_simp; rfl)); intro w16 hbox hb hk; have hsz_ := size_of_but BK13.out hbox hk; replace BO := Aside0.mk (BO.out.but BK13.out (.inl rfl) GE13.out hsz_ hk); replace AN := Aside0.mk (AN.out.move (.of_but BK13.out rfl GE13.out hsz_ hk)); replace BK13 := Aside0.mk hbox; replace HB := Aside0.mk hb; replace BK14 := Aside0.mk ((hk _ (Ne.symm NE13_14.out)).trans BK14.out); clear hbox hb hk hsz_)
         | ((with_reducible refine gate_store2 (t := 43) (x := .tmp 14) (y := .tmp 53) rfl ?_); refine ev_row (B := w5.heap.size) (w0 := w5) rfl 43 (.tmp 14) (.tmp 53) rfl rfl g14 #[.slice none 0 0, .slice iA il.length ic] ?hx ?hy 43 _ BK14.out (by kernel_rfl) rfl (by simp [Value.oneCell', Msh.mesh, Msh.tree]) HB.out GE14.out ?_; (case hx => first | (go_simp; done) | rfl); (case hy => first | (go_simp; done) | rfl | (go_simp; rfl)); intro w17 hbox hb hk; have hsz_ := size_of_but BK14.out hbox hk; replace BO := Aside0.mk (BO.out.but BK14.out (.inr rfl) GE14.out hsz_ hk); replace AN := Aside0.mk (AN.out.move (.of_but BK14.out rfl GE14.out hsz_ hk)); replace BK14 := Aside0.mk hbox; replace HB := Aside0.mk hb; replace BK13 := Aside0.mk ((hk _ NE13_14.out).trans BK13.out); have x1 := HX.out w17 HB.out; clear hbox hb hk hsz_)
         | (go_at_call 14; (with_reducible refine (BO.out.rget (i := x) HS.out INV.out (by have := HN.out; omega)).mono ?_); rintro e w18 ⟨rfl, ⟨g', pA', pc', sA', sc', kv', av'⟩, hg', hbo, htn, hb, hkp⟩; have hg2 : g11 = g' := hg'.symm; subst hg2; replace BK13 := Aside0.mk (hkp _ _ _ BK13.out (by decide) (by decide)); replace BK14 := Aside0.mk (hkp _ _ _ BK14.out (by decide) (by decide)); replace AN := Aside0.mk (AN.out.turn htn); replace HB := Aside0.mk (HB.out.trans hb); replace BO := Aside0.mk hbo; clear hbo htn hb hkp hg'))
      clear x0 x1
      obtain ⟨bo, hbo⟩ : ∃ bo, (!badI sizes x) = bo := ⟨_, rfl⟩
      have ce := CE.out
      rw [hbo] at ce ⊢
      have BN := Aside0.mk (INV.out.get HS.out HXI.out)
      have HN2 : Aside0 ((getP sizes p x).now ≤ 1001) := ⟨by rw [getP_now]; have := HN.out; omega⟩
      have HRN := Aside0.mk HRUN.out
      generalize getP sizes p x = p2 at *
      have HBO := Aside0.mk hbo
      clear hbo CE INV
      obtain ⟨A3, k3, e3, hk3, hC3, _⟩ := row_open BO.out.ref.kv
      obtain ⟨A4, k4, e4, hk4, hC4, _⟩ := row_open BO.out.ref.av
      have e3' : kv' = .slice A3 (ids p2).length k3 := e3
      have e4' : av' = .slice A4 (rdOf p2).A.length k4 := e4
      subst e3' e4'
      have hsum := rd_held (sizes := sizes) (p := p2) (fun k hk => ⟨(BN.out.size k hk).1, (BN.out.size k hk).2.1⟩)
      have RHC0 : ∀ W', Below w18.heap.size w18 W' → Calls Try.prog 19 #[.agg #[.int .i64 p2.room, .slice pA' p2.picks.length pc', .slice sA' sizes.length sc', .slice A3 (ids p2).length k3, .slice A4 (rdOf p2).A.length k4, .int .i64 p2.now, .int .i64 p2.tb, .int .i64 p2.td, .int .i64 p2.tp, .int .i64 p2.tm]] W' fun e w2 => e = .returned (.int .i64 (held p2.kept)) ∧ Below W'.heap.size W' w2 := fun W' hb => by
        have := refHeld.calls (BO.out.ref.below hb) (rd_in BN.out (by have := HN2.out; omega)).good (by have := (rd_in BN.out (by have := HN2.out; omega)).len; omega)
        rw [hsum] at this
        exact this
      have hcs : w18.heap[g11]? = some (.cells #[.int .i64 p2.room, .slice pA' p2.picks.length pc', .slice sA' sizes.length sc', .slice A3 (ids p2).length k3, .slice A4 (rdOf p2).A.length k4, .int .i64 p2.now, .int .i64 p2.tb, .int .i64 p2.td, .int .i64 p2.tp, .int .i64 p2.tm] 34 (0, 0)) := BO.out.ref.cells
      obtain ⟨n4, hn4⟩ : ∃ n, (rdOf p2).A.length = n := ⟨_, rfl⟩
      obtain ⟨ids_, hids⟩ : ∃ l, ids p2 = l := ⟨_, rfl⟩
      have hil : ids_.length ≤ 1000000 := by rw [← hids, ids_len]; have h1 := BN.out.len; have h2 := HN2.out; omega
      have KPC : ∀ W', Below w18.heap.size w18 W' → Calls Try.prog 17 #[.pointer (some ⟨g, 0, none⟩)] W' (KeptPost ids_ W') := fun W' hb => (BO.out.live.below hb).kept_as (by have := HN2.out; omega) hids
      have hC3' : Kd.C (Kd.int .i64) w18 A3 ids_.length ids_ := by rw [← hids]; exact hC3
      have hk3' : ids_.length ≤ k3 := by rw [← hids]; exact hk3
      rw [hids] at hcs RHC0
      rw [hn4] at hcs RHC0
      have KC3 := Aside0.mk hC3'
      have HK3 := Aside0.mk hk3'
      have HIL := Aside0.mk hil
      have RHC := RHC0
      have HDC : ∀ W', Below w18.heap.size w18 W' → Calls Try.prog 18 #[.pointer (some ⟨g, 0, none⟩)] W' (fun e w2 => e = .returned (.int .i64 (held p2.kept)) ∧ w2 = W') := fun W' hb => (BO.out.live.below hb).heldc (by have := HN2.out; omega)
      have TLC : ∀ W', Below w18.heap.size w18 W' → Calls Try.prog 20 #[.pointer (some ⟨g, 0, none⟩)] W' (fun e w2 => e = .returned (.agg #[.int .i64 p2.tb, .int .i64 p2.td, .int .i64 p2.tp, .int .i64 p2.tm]) ∧ Below W'.heap.size W' w2) := fun W' hb => (BO.out.live.below hb).tallyc
      have RTC : ∀ W', Below w18.heap.size w18 W' → Calls Try.prog 15 #[.agg #[.slice vA vl.length vc, .slice none 0 0, .slice tA tl.length tc], .agg #[.slice none 0 0, .slice iA il.length ic], .int .i64 c, .slice A2 sizes.length c2, .int .i64 x] W' (fun e w2 => e = .returned (.bool true) ∧ Below W'.heap.size W' w2) := fun W' hb =>
        relievolaw17_right.calls vA vc vl none 0 [] tA tc tl none 0 [] iA ic il c A2 c2 sizes x true W' (Kd.C_below AN.out.v.1 hb) AN.out.vc (kd_nil _ _) (Nat.le_refl _) (Kd.C_below AN.out.t.1 hb) AN.out.tc (kd_nil _ _) (Nat.le_refl _) (Kd.C_below AN.out.it.1 hb) AN.out.ic (Kd.C_below HR2.out (HW5.out.trans ((HB.out.trans (hb.mono HB.out.size)).mono HW5.out.size))) HC2.out RT.out
      have BT : ∀ W1 W2, Below w18.heap.size w18 W1 → Below W1.heap.size W1 W2 → Below w18.heap.size w18 W2 := fun W1 W2 h1 h2 => below_step h1 h2
      have SA0 : Below w18.heap.size w18 w18 ∧ w18.cell? ⟨g13, 0, none⟩ = some (.slice vA vl.length vc) ∧ w18.cell? ⟨g13, 1, none⟩ = some (.slice none 0 0) ∧ w18.cell? ⟨g13, 2, none⟩ = some (.slice tA tl.length tc) ∧ w18.cell? ⟨g14, 0, none⟩ = some (.slice none 0 0) ∧ w18.cell? ⟨g14, 1, none⟩ = some (.slice iA il.length ic) ∧ w18.cell? (ad.add j) = some (.int .i64 x) ∧ w18.cell? ⟨g11, 0, none⟩ = some (.int .i64 p2.room) ∧ w18.cell? ⟨g11, 1, none⟩ = some (.slice pA' p2.picks.length pc') ∧ w18.cell? ⟨g11, 2, none⟩ = some (.slice sA' sizes.length sc') ∧ w18.cell? ⟨g11, 3, none⟩ = some (.slice A3 ids_.length k3) ∧ w18.cell? ⟨g11, 4, none⟩ = some (.slice A4 n4 k4) ∧ w18.cell? ⟨g11, 5, none⟩ = some (.int .i64 p2.now) ∧ w18.cell? ⟨g11, 6, none⟩ = some (.int .i64 p2.tb) ∧ w18.cell? ⟨g11, 7, none⟩ = some (.int .i64 p2.td) ∧ w18.cell? ⟨g11, 8, none⟩ = some (.int .i64 p2.tp) ∧ w18.cell? ⟨g11, 9, none⟩ = some (.int .i64 p2.tm) := ⟨Below.refl _ _, (blk_cell BK13.out 0).trans rfl, (blk_cell BK13.out 1).trans rfl, (blk_cell BK13.out 2).trans rfl, (blk_cell BK14.out 0).trans rfl, (blk_cell BK14.out 1).trans rfl, HX.out _ HB.out, (blk_cell hcs 0).trans rfl, (blk_cell hcs 1).trans rfl, (blk_cell hcs 2).trans rfl, (blk_cell hcs 3).trans rfl, (blk_cell hcs 4).trans rfl, (blk_cell hcs 5).trans rfl, (blk_cell hcs 6).trans rfl, (blk_cell hcs 7).trans rfl, (blk_cell hcs 8).trans rfl, (blk_cell hcs 9).trans rfl⟩
      have HCELL : ∀ w', Below w18.heap.size w18 w' → Below w18.heap.size w18 w' ∧ w'.cell? ⟨g13, 0, none⟩ = some (.slice vA vl.length vc) ∧ w'.cell? ⟨g13, 1, none⟩ = some (.slice none 0 0) ∧ w'.cell? ⟨g13, 2, none⟩ = some (.slice tA tl.length tc) ∧ w'.cell? ⟨g14, 0, none⟩ = some (.slice none 0 0) ∧ w'.cell? ⟨g14, 1, none⟩ = some (.slice iA il.length ic) ∧ w'.cell? (ad.add j) = some (.int .i64 x) ∧ w'.cell? ⟨g11, 0, none⟩ = some (.int .i64 p2.room) ∧ w'.cell? ⟨g11, 1, none⟩ = some (.slice pA' p2.picks.length pc') ∧ w'.cell? ⟨g11, 2, none⟩ = some (.slice sA' sizes.length sc') ∧ w'.cell? ⟨g11, 3, none⟩ = some (.slice A3 ids_.length k3) ∧ w'.cell? ⟨g11, 4, none⟩ = some (.slice A4 n4 k4) ∧ w'.cell? ⟨g11, 5, none⟩ = some (.int .i64 p2.now) ∧ w'.cell? ⟨g11, 6, none⟩ = some (.int .i64 p2.tb) ∧ w'.cell? ⟨g11, 7, none⟩ = some (.int .i64 p2.td) ∧ w'.cell? ⟨g11, 8, none⟩ = some (.int .i64 p2.tp) ∧ w'.cell? ⟨g11, 9, none⟩ = some (.int .i64 p2.tm) := fun w' hb => by
        have q := fun (p : Addr) (hp : p.block < w18.heap.size) => hb.cell (p := p) hp
        have l3 := blk_lt BK13.out
        have l4 := blk_lt BK14.out
        have l1 := blk_lt hcs
        obtain ⟨_, a0, a1, a2, a3, a4, a5, z0, z1, z2, z3, z4, z5, z6, z7, z8, z9⟩ := SA0
        exact ⟨hb, (q _ l3).trans a0, (q _ l3).trans a1, (q _ l3).trans a2, (q _ l4).trans a3, (q _ l4).trans a4, HX.out _ (HB.out.trans (hb.mono HB.out.size)), (q _ l1).trans z0, (q _ l1).trans z1, (q _ l1).trans z2, (q _ l1).trans z3, (q _ l1).trans z4, (q _ l1).trans z5, (q _ l1).trans z6, (q _ l1).trans z7, (q _ l1).trans z8, (q _ l1).trans z9⟩
      have YC := Aside0.mk SA0
      have ts := tally_same p2.tb p2.td p2.tp p2.tm
      clear SA0 hcs hC3' hk3' hil hn4 hids hsum hC3 hk3 hC4 hk4 e3 e4 RHC0
      generalize held p2.kept = hv at *
      go_region_held3 (fun w' => Below w18.heap.size w18 w' ∧ w'.cell? ⟨g13, 0, none⟩ = some (.slice vA vl.length vc) ∧ w'.cell? ⟨g13, 1, none⟩ = some (.slice none 0 0) ∧ w'.cell? ⟨g13, 2, none⟩ = some (.slice tA tl.length tc) ∧ w'.cell? ⟨g14, 0, none⟩ = some (.slice none 0 0) ∧ w'.cell? ⟨g14, 1, none⟩ = some (.slice iA il.length ic) ∧ w'.cell? (ad.add j) = some (.int .i64 x) ∧ w'.cell? ⟨g11, 0, none⟩ = some (.int .i64 p2.room) ∧ w'.cell? ⟨g11, 1, none⟩ = some (.slice pA' p2.picks.length pc') ∧ w'.cell? ⟨g11, 2, none⟩ = some (.slice sA' sizes.length sc') ∧ w'.cell? ⟨g11, 3, none⟩ = some (.slice A3 ids_.length k3) ∧ w'.cell? ⟨g11, 4, none⟩ = some (.slice A4 n4 k4) ∧ w'.cell? ⟨g11, 5, none⟩ = some (.int .i64 p2.now) ∧ w'.cell? ⟨g11, 6, none⟩ = some (.int .i64 p2.tb) ∧ w'.cell? ⟨g11, 7, none⟩ = some (.int .i64 p2.td) ∧ w'.cell? ⟨g11, 8, none⟩ = some (.int .i64 p2.tp) ∧ w'.cell? ⟨g11, 9, none⟩ = some (.int .i64 p2.tm)) (first | exact YC.out | exact HCELL _ (below_drew1 (Below.refl _ _))) (first
       | (go_at_call 15; (with_reducible refine (RTC _ (by first | exact YC.out.1 | exact below_drew1 (Below.refl _ _) | assumption | exact And.left (by assumption))).mono ?_); rintro e w20 ⟨rfl, hq⟩; have hbw := BT _ _ (by first | exact YC.out.1 | exact below_drew1 (Below.refl _ _) | assumption | exact And.left (by assumption)) hq; have YC := Aside0.mk (HCELL _ hbw); clear hbw hq)
       | (go_at_call 17; (with_reducible refine (KPC _ (by first | exact YC.out.1 | exact below_drew1 (Below.refl _ _) | assumption | exact And.left (by assumption))).mono ?_); rintro e w21 ⟨Aw, cw, rfl, hcw, hq, hCw⟩; have hbw := BT _ _ (by first | exact YC.out.1 | exact below_drew1 (Below.refl _ _) | assumption | exact And.left (by assumption)) hq; have YC := Aside0.mk (HCELL _ hbw); have SMC : ∀ W', Below w21.heap.size w21 W' → Below w18.heap.size w18 W' → Calls Try.prog 16 #[.slice Aw ids_.length cw, .slice A3 ids_.length k3] W' (fun e w2 => e = .returned (.bool true) ∧ Drawn0 W' w2) := (fun W' h1 h2 => relievoref00_SameInts.calls (ids_.length + 1) Aw cw ids_ A3 k3 ids_ true W' (Kd.C_below (hCw (bd0 0) (fun _ h => h)).1 h1) hcw (Kd.C_below KC3.out h2) HK3.out (same_refl ids_ HIL.out)); clear hbw hq hcw hCw)
       | (go_at_call 16; (with_reducible refine (SMC _ (by first | exact Below.refl _ _ | exact below_drew1 (Below.refl _ _)) (by first | exact YC.out.1 | exact below_drew1 (Below.refl _ _) | assumption | exact And.left (by assumption))).mono ?_); rintro e w22 ⟨rfl, ⟨m, rfl⟩⟩; have YC := Aside0.mk (HCELL _ (pw_below_drewN YC.out.1 m)))
       | (go_at_call 18; (with_reducible refine (HDC _ (by first | exact YC.out.1 | exact below_drew1 (Below.refl _ _) | assumption | exact And.left (by assumption))).mono ?_); rintro e w23 ⟨rfl, rfl⟩; skip)
       | (go_at_call 19; (with_reducible refine (RHC _ (by first | exact YC.out.1 | exact below_drew1 (Below.refl _ _) | assumption | exact And.left (by assumption))).mono ?_); rintro e w24 ⟨rfl, hq⟩; have hbw := BT _ _ (by first | exact YC.out.1 | exact below_drew1 (Below.refl _ _) | assumption | exact And.left (by assumption)) hq; have YC := Aside0.mk (HCELL _ hbw); clear hbw hq)
       | (go_at_call 20; (with_reducible refine (TLC _ (by first | exact YC.out.1 | exact below_drew1 (Below.refl _ _) | assumption | exact And.left (by assumption))).mono ?_); rintro e w25 ⟨rfl, hq⟩; have hbw := BT _ _ (by first | exact YC.out.1 | exact below_drew1 (Below.refl _ _) | assumption | exact And.left (by assumption)) hq; have YC := Aside0.mk (HCELL _ hbw); clear hbw hq))
      all_goals
        go_wp2
        go_roundg k1
        case measure => omega
        case rel => exact ⟨j + 1, by simp, _, rfl, ⟨by omega⟩, ⟨by rw [HRN.out]; exact ⟨_, _, rfl, BO.out.below YC.out.1⟩⟩, ⟨HB.out.trans (YC.out.1.mono HB.out.size)⟩⟩
    · have e1 : decide ((j : Int) < (gets.length : Int)) = false := decide_eq_false (by omega)
      have SMO := relievoref00_SameInts.calls (picks.length + 1) A9 c9 picks A1 c1 picks true W (Kd.C_below OC.out HB.out) OCC.out (Kd.C_below HR1.out (HW5.out.trans (HB.out.mono HW5.out.size))) HC1.out (same_refl picks HPL.out)
      go_wp2_with (go_at_call 16; (with_reducible refine SMO.mono ?_); rintro e w30 ⟨rfl, ⟨m, rfl⟩⟩)
      go_ret
      exact ⟨rfl, pw_below_drewN (HW5.out.trans (HB.out.mono HW5.out.size)) _⟩
theorem CacheSteps_walk (a0 : Int) (a1 : Option Addr) (len1 cap1 : Nat) (z1 : List Int) (a2 : Option Addr) (len2 cap2 : Nat) (z2 : List Int) (a3 : Option Addr) (len3 cap3 : Nat) (z3 : List Int) (w : World) (w0 : (Lit.int .i64 a0).wf = true) (w1 : (a1 = none ∧ len1 = 0 ∧ cap1 = 0 ∧ z1 = []) ∨ ∃ x, a1 = some x ∧ len1 ≤ cap1 ∧ cap1 ≤ maxLen ∧ z1.length = cap1 ∧ (∀ i, i < z1.length → w.cell? (x.add i) = some (.int .i64 (z1.getD i 0))) ∧ ∀ n ∈ z1, (Lit.int .i64 n).wf = true) (y1 : len1 * 8 ≤ 140737488351232) (w2 : (a2 = none ∧ len2 = 0 ∧ cap2 = 0 ∧ z2 = []) ∨ ∃ x, a2 = some x ∧ len2 ≤ cap2 ∧ cap2 ≤ maxLen ∧ z2.length = cap2 ∧ (∀ i, i < z2.length → w.cell? (x.add i) = some (.int .i64 (z2.getD i 0))) ∧ ∀ n ∈ z2, (Lit.int .i64 n).wf = true) (y2 : len2 * 8 ≤ 140737488351232) (w3 : (a3 = none ∧ len3 = 0 ∧ cap3 = 0 ∧ z3 = []) ∨ ∃ x, a3 = some x ∧ len3 ≤ cap3 ∧ cap3 ≤ maxLen ∧ z3.length = cap3 ∧ (∀ i, i < z3.length → w.cell? (x.add i) = some (.int .i64 (z3.getD i 0))) ∧ ∀ n ∈ z3, (Lit.int .i64 n).wf = true) (y3 : len3 * 8 ≤ 140737488351232) :
    Calls Try.prog 3 #[.int .i64 a0, .slice a1 len1 cap1, .slice a2 len2 cap2, .slice a3 len3 cap3] w fun e w' => e = .returned (.bool true) ∧ Below w.heap.size w w' := by
  obtain ⟨l1, rfl, hr1, hm1, hw1, hc1⟩ := ReadsInt.ofRowC w1
  obtain ⟨l2, rfl, hr2, hm2, hw2, hc2⟩ := ReadsInt.ofRowC w2
  obtain ⟨l3, rfl, hr3, hm3, hw3, hc3⟩ := ReadsInt.ofRowC w3
  exact steps.calls a0 _ _ l1 _ _ l2 _ _ l3 w (i64_wf w0) (Kd.C_of_reads (d := (0 : Int)) (h1 := fun _ => rfl) hr1) hc1 (Kd.C_of_reads (d := (0 : Int)) (h1 := fun _ => rfl) hr2) hc2 (Kd.C_of_reads (d := (0 : Int)) (h1 := fun _ => rfl) hr3) hc3 (fun x hx => i64_wf (hw3 x hx))
end Go.Proofs.Ytfhjdhhflpekiaa.G
