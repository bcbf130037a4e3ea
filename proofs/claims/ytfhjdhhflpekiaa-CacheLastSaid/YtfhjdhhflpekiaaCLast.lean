/- The walk of CacheLast. -/
import Derived.Test.YtfhjdhhflpekiaaCLaw
import Derived.Test.YtfhjdhhflpekiaaCLastP
namespace Go.Proofs.Ytfhjdhhflpekiaa.G
open Go.RowKit Go.Proofs.Cache Go.Proofs.YtfhjdhhflpekiaaW.PrintWords Go.Proofs.YtfhjdhhflpekiaaW.PrintLast Go.Proofs.YtfhjdhhflpekiaaW.PrintMore
attribute [local go_sem] max2_int min2_int max_two min_two
set_option linter.unusedVariables false
set_option linter.unusedSimpArgs false
set_option maxHeartbeats 4000000 in
set_option maxRecDepth 100000 in
theorem last.calls (room : Int) (A1 : Option Addr) (c1 : Nat) (picks : List Int) (A2 : Option Addr) (c2 : Nat) (sizes : List Int) (A3 : Option Addr) (c3 : Nat) (gets : List Int) (w : World) (hroom : I64 room)
    (hr1 : Kd.C (Kd.int .i64) w A1 picks.length picks) (hc1 : picks.length ≤ c1) (hr2 : Kd.C (Kd.int .i64) w A2 sizes.length sizes) (hc2 : sizes.length ≤ c2) (hr3 : Kd.C (Kd.int .i64) w A3 gets.length gets) (hc3 : gets.length ≤ c3) (hg : ∀ x ∈ gets, I64 x) :
    Calls Try.prog 7 #[.int .i64 room, .slice A1 picks.length c1, .slice A2 sizes.length c2, .slice A3 gets.length c3] w fun e w' => e = .returned (.bool true) ∧ Below w.heap.size w w' := by
  have hu40 := Try.underlying40
  have hu43 := Try.underlying43
  have hu32 := Try.underlying32
  have HB := Aside0.mk (Below.refl w.heap.size w)
  have HR1 := Aside0.mk hr1
  have HR2 := Aside0.mk hr2
  have HR3 := Aside0.mk hr3
  have HC1 := Aside0.mk hc1
  have HC2 := Aside0.mk hc2
  have HC3 := Aside0.mk hc3
  have HRM := Aside0.mk hroom
  have HG := Aside0.mk hg
  clear hr1 hr2 hr3 hc1 hc2 hc3 hroom hg
  go_enter Try.func7, Try.ntmps7
  go_wp2_with (go_at_call 8; (with_reducible refine (alive.calls _).mono ?_); rintro e w1 ⟨rfl, hb⟩; replace HB := Aside0.mk (below_step HB.out hb); clear hb)
  refine (great_calls A2 c2 sizes A1 c1 picks A3 c3 gets _ (Kd.C_below HR2.out HB.out) HC2.out (Kd.C_below HR1.out HB.out) HC1.out (Kd.C_below HR3.out HB.out) HC3.out).mono ?_
  rintro e w2 ⟨r, rfl, ⟨m, rfl⟩, hgr⟩
  replace HB := Aside0.mk (pw_below_drewN HB.out m)
  cases r with
  | true =>
    go_wp2
    go_ret
    exact ⟨rfl, HB.out⟩
  | false =>
  have HGR := Aside0.mk (hgr rfl)
  clear hgr
  go_wp2_with (first
   | ((with_reducible refine gate_dst (N := 28) rfl ?_); refine box_event ?hg (N := 28) ?hd (cs := #[.slice A2 sizes.length c2]) (t := 30) ?hr ?_; (case hd => rfl); (case hg => rfl); (case hr => first | (go_simp; done) | (go_simp; rfl)); intro g27 hg w29 hbox hb; have BK27 := Aside0.mk (hbox); have GE27 := Aside0.mk (bG hg (HB.out)); replace HB := Aside0.mk (below_step (HB.out) hb); have MD : Aside0 (MadeAt w.heap.size sizes w29 g27) := ⟨⟨⟨_, _, BK27.out, HC2.out, (rd_arg HR2.out).int (.of_below HB.out)⟩⟩⟩; have NW := live_new (B := w.heap.size) (sizes := sizes) room A1 picks c1 g27 MD.out (Kd.C_below HR1.out HB.out) HC1.out (by have := HGR.out.2.1; omega) HB.out.size HRM.out; clear hb hbox hg)
   | (go_at_call 11; (with_reducible refine NW.mono ?_); rintro e w11 ⟨g, s, rfl, hlv, hb, hmu⟩; have LV := Aside0.mk hlv; replace HB := Aside0.mk (below_step HB.out hb); clear hlv hb hmu NW MD BK27 GE27))
  have hgl : (gets.length : Int) ≤ 200 := by have := HGR.out.2.2.1; omega
  go_loopg [10] gets.length (fun kq v10 w' => ∃ j : Nat, v10 = .int .i64 j ∧ ∃ W, W = w' ∧ Aside0 (j + kq = gets.length) ∧ Aside0 (∃ s, Live w.heap.size sizes W g (runL sizes (startP room picks) gets j) s) ∧ Aside0 (Below w.heap.size w W))
  case atStart => exact ⟨0, rfl, _, rfl, ⟨by omega⟩, ⟨s, LV.out⟩, HB⟩
  case round =>
    clear LV HB s
    obtain ⟨j, rfl, W, rfl, HJ1, HLV, HB⟩ := hrel
    have hj := HJ1.out
    obtain ⟨s, hlv⟩ := HLV.out
    have LV := Aside0.mk hlv
    clear hlv HLV
    by_cases hlt : j < gets.length
    · have c1 : decide ((j : Int) < (gets.length : Int)) = true := decide_eq_true (by omega)
      have i0 : 0 ≤ (j : Int) := by omega
      have i1 : (j : Int) < (gets.length : Int) := by omega
      obtain ⟨ad, rfl, hcell⟩ := Kd.at_int HR3.out (j : Int) i0 i1
      have HX : Aside0 (∀ W', Below w.heap.size w W' → W'.cell? (ad.add j) = some (.int .i64 (rd gets (j : Int)))) := ⟨fun W' hb => (cell_grow_below hb HR3.out hlt).trans hcell⟩
      have hgs := HGR.out.2.2.2
      have HS := Aside0.mk hgs
      clear hgs
      have hxm : rd gets (j : Int) ∈ gets := by
        show gets.getD (j : Int).toNat 0 ∈ gets
        rw [Int.toNat_natCast, List.getD_eq_getElem?_getD, List.getElem?_eq_getElem hlt]
        exact List.getElem_mem _
      have HXI := Aside0.mk (HG.out _ hxm)
      have hrun : runL sizes (startP room picks) gets (j + 1) = lastP sizes (runL sizes (startP room picks) gets j) (rd gets (j : Int)) := by rw [runL]; rfl
      have hnow := runL_now (sizes := sizes) (p := startP room picks) (gets := gets) j
      have hst0 : (startP room picks).now = 0 := rfl
      have hroo : (runL sizes (startP room picks) gets j).room = if room < 0 then 0 else room := runL_room j
      have HRUN := Aside0.mk hrun
      clear hcell hxm hrun
      generalize rd gets (j : Int) = x at *
      generalize runL sizes (startP room picks) gets j = p at *
      have hinv := LV.out.inv
      have HNN : Aside0 (p.now ≤ 999990) := ⟨by omega⟩
      obtain ⟨rr, hrr⟩ : ∃ rr, (if room < 0 then 0 else room) = rr := ⟨_, rfl⟩
      rw [hrr] at hroo
      have x0 := HX.out W HB.out
      unfold lastP at HRUN
      cases gk with
      | zero => omega
      | succ k1 =>
      by_cases hbd : badI sizes x = true
      · rw [if_pos hbd] at HRUN
        have HBD := Aside0.mk hbd
        clear hbd hinv hnow hst0 hroo
        go_wp2_with (first
         | (go_at_call 13; (with_reducible refine (LV.out.get_bad HS.out HXI.out HBD.out (by have := HNN.out; omega)).mono ?_); rintro e w14 ⟨s', rfl, hgt⟩; replace HB := Aside0.mk (HB.out.trans hgt.left.frame.below); replace LV := Aside0.mk hgt.live; clear hgt)
         | ((with_reducible refine gate_dst (N := 11) rfl ?_); refine box_event ?hg (N := 11) ?hd (cs := #[.slice none 0 0, .slice none 0 0, .slice none 0 0]) (t := 40) ?hr ?_; (case hd => rfl); (case hg => rfl); (case hr => first | (go_simp; done) | (go_simp; rfl)); intro g11 hg w15 hbox hb; have BK11 := Aside0.mk (hbox); have GE11 := Aside0.mk (bG hg (HB.out)); replace LV := Aside0.mk (LV.out.below hb); replace HB := Aside0.mk (below_step (HB.out) hb); clear hb hbox hg)
         | ((with_reducible refine gate_dst (N := 12) rfl ?_); refine box_event ?hg (N := 12) ?hd (cs := #[.slice none 0 0, .slice none 0 0]) (t := 43) ?hr ?_; (case hd => rfl); (case hg => rfl); (case hr => first | (go_simp; done) | (go_simp; rfl)); intro g12 hg w16 hbox hb; have BK12 := Aside0.mk (hbox); have GE12 := Aside0.mk (bG hg (HB.out)); have NE11_12 := cN hg BK11; replace BK11 := cB hb BK11; replace LV := Aside0.mk (LV.out.below hb); replace HB := Aside0.mk (below_step (HB.out) hb); clear hb hbox hg)
         | ((with_reducible refine gate_store2 (t := 40) (x := .tmp 11) (y := .tmp 46) rfl ?_); refine ev_row (B := w.heap.size) (w0 := w) rfl 40 (.tmp 11) (.tmp 46) rfl rfl g11 #[.slice none 0 0, .slice none 0 0, .slice none 0 0] ?hx ?hy 40 _ BK11.out (by kernel_rfl) rfl (by simp [Value.oneCell', Msh.mesh, Msh.tree]) HB.out GE11.out ?_; (case hx => first | (go_simp; done) | rfl); (case hy => first | (go_simp; done) | rfl | (go_simp; rfl)); intro w18 hbox hb hk; have hsz_ := size_of_but BK11.out hbox hk; replace LV := Aside0.mk (LV.out.but BK11.out (.inl rfl) GE11.out hsz_ hk); replace BK11 := Aside0.mk hbox; replace HB := Aside0.mk hb; replace BK12 := Aside0.mk ((hk _ (Ne.symm NE11_12.out)).trans BK12.out); clear hbox hb hk hsz_)
         | ((with_reducible refine gate_store2 (t := 43) (x := .tmp 12) (y := .tmp 47) rfl ?_); refine ev_row (B := w.heap.size) (w0 := w) rfl 43 (.tmp 12) (.tmp 47) rfl rfl g12 #[.slice none 0 0, .slice none 0 0] ?hx ?hy 43 _ BK12.out (by kernel_rfl) rfl (by simp [Value.oneCell', Msh.mesh, Msh.tree]) HB.out GE12.out ?_; (case hx => first | (go_simp; done) | rfl); (case hy => first | (go_simp; done) | rfl | (go_simp; rfl)); intro w19 hbox hb hk; have hsz_ := size_of_but BK12.out hbox hk; replace LV := Aside0.mk (LV.out.but BK12.out (.inr (.inl rfl)) GE12.out hsz_ hk); replace BK12 := Aside0.mk hbox; replace HB := Aside0.mk hb; replace BK11 := Aside0.mk ((hk _ NE11_12.out).trans BK11.out); clear hbox hb hk hsz_))
        go_roundg k1
        case measure => omega
        case rel => exact ⟨j + 1, by simp, _, rfl, ⟨by omega⟩, ⟨by rw [HRUN.out]; exact ⟨_, LV.out⟩⟩, ⟨HB.out⟩⟩
      · have hbd' : badI sizes x = false := by simpa using hbd
        rw [if_neg hbd] at HRUN
        have HBD := Aside0.mk hbd'
        have hth := last_there hinv hbd'
        rw [hroo] at hth
        have hb2 := hbd'
        unfold badI at hb2
        simp only [Bool.or_eq_false_iff, decide_eq_false_iff_not] at hb2
        have hx0 : 0 ≤ x := by omega
        have hx1 : x < (sizes.length : Int) := by omega
        obtain ⟨ads, rfl, hsc⟩ := Kd.at_int HR2.out x hx0 hx1
        have HSX : Aside0 (∀ W', Below w.heap.size w W' → W'.cell? (ads.add x.toNat) = some (.int .i64 (rd sizes x))) := ⟨fun W' hb => (cell_grow_below hb HR2.out (by omega)).trans hsc⟩
        have hrdx : sizes.getD x.toNat 0 = rd sizes x := rfl
        rw [hrdx] at hth
        clear hsc hrdx hb2
        have AA := amid_all (getP sizes p x).kept x
        have HI1 := hinv.get (i := x) HS.out HXI.out
        have hlk : (((getP sizes p x).kept.map (·.i)).length : Int) ≤ 1000000 := by
          rw [List.length_map]
          have h1 := HI1.len
          rw [getP_now] at h1
          omega
        have TH := tally_hit (sizes := sizes) (p := getP sizes p x) (i := x)
        have HN1 : Aside0 ((getP sizes p x).now ≤ 999999) := ⟨by rw [getP_now]; omega⟩
        generalize rd sizes x = sx at *
        generalize hP : getP sizes p x = p1 at *
        have HPP := Aside0.mk hP
        obtain ⟨ids, hids⟩ : ∃ l, p1.kept.map (·.i) = l := ⟨_, rfl⟩
        rw [hids] at AA hlk
        have HID := Aside0.mk hids
        obtain ⟨t1, ht1⟩ : ∃ a, p1.tb = a := ⟨_, rfl⟩
        obtain ⟨t2, ht2⟩ : ∃ a, p1.td = a := ⟨_, rfl⟩
        obtain ⟨t3, ht3⟩ : ∃ a, p1.tp = a := ⟨_, rfl⟩
        obtain ⟨t4, ht4⟩ : ∃ a, p1.tm = a := ⟨_, rfl⟩
        have HE1 : Aside0 (p1.tb = t1 ∧ p1.td = t2 ∧ p1.tp = t3 ∧ p1.tm = t4) := ⟨ht1, ht2, ht3, ht4⟩
        rw [ht1, ht2, ht3, ht4] at TH
        clear hids ht1 ht2 ht3 ht4 hbd hbd' hinv hnow hst0 hroo hP HI1
        have N1 := tally_same t1 t2 t3 t4
        by_cases hf : findI p1.kept x < p1.kept.length
        · have HTH := Aside0.mk (TH hf)
          rw [decide_eq_true hf] at AA hth
          have HAF := Aside0.mk AA
          have HTS := Aside0.mk hth.symm
          clear AA hth TH hf
          go_wp2_with (first
           | (go_at_call 13; (with_reducible refine (LV.out.get_ok HS.out HXI.out HBD.out (by have := HNN.out; omega)).mono ?_); rintro e w14 ⟨m, s', hmi, hmn, rfl, hms, hgt⟩; replace HB := Aside0.mk (HB.out.trans hgt.left.frame.below); replace LV := Aside0.mk hgt.live; rw [HPP.out] at LV; clear hgt)
           | ((with_reducible refine gate_dst (N := 11) rfl ?_); refine box_event ?hg (N := 11) ?hd (cs := #[.slice none 0 0, .slice none 0 0, .slice none 0 0]) (t := 40) ?hr ?_; (case hd => rfl); (case hg => rfl); (case hr => first | (go_simp; done) | (go_simp; rfl)); intro g11 hg w15 hbox hb; have BK11 := Aside0.mk (hbox); have GE11 := Aside0.mk (bG hg (HB.out)); replace LV := Aside0.mk (LV.out.below hb); replace HB := Aside0.mk (below_step (HB.out) hb); clear hb hbox hg)
           | ((with_reducible refine gate_dst (N := 12) rfl ?_); refine box_event ?hg (N := 12) ?hd (cs := #[.slice none 0 0, .slice none 0 0]) (t := 43) ?hr ?_; (case hd => rfl); (case hg => rfl); (case hr => first | (go_simp; done) | (go_simp; rfl)); intro g12 hg w16 hbox hb; have BK12 := Aside0.mk (hbox); have GE12 := Aside0.mk (bG hg (HB.out)); have NE11_12 := cN hg BK11; replace BK11 := cB hb BK11; replace LV := Aside0.mk (LV.out.below hb); replace HB := Aside0.mk (below_step (HB.out) hb); clear hb hbox hg)
           | ((with_reducible refine gate_store2 (t := 40) (x := .tmp 11) (y := .tmp 46) rfl ?_); refine ev_row (B := w.heap.size) (w0 := w) rfl 40 (.tmp 11) (.tmp 46) rfl rfl g11 m.mesh ?hx ?hy 40 _ BK11.out (by kernel_rfl) rfl (by simp [Value.oneCell', Msh.mesh, Msh.tree]) HB.out GE11.out ?_; (case hx => first | (go_simp; done) | rfl); (case hy => first | (go_simp; done) | rfl | (go_simp; rfl)); intro w18 hbox hb hk; have hsz_ := size_of_but BK11.out hbox hk; replace LV := Aside0.mk (LV.out.but BK11.out (.inl rfl) GE11.out hsz_ hk); replace BK11 := Aside0.mk hbox; replace HB := Aside0.mk hb; replace BK12 := Aside0.mk ((hk _ (Ne.symm NE11_12.out)).trans BK12.out); clear hbox hb hk hsz_)
           | ((with_reducible refine gate_store2 (t := 43) (x := .tmp 12) (y := .tmp 47) rfl ?_); refine ev_row (B := w.heap.size) (w0 := w) rfl 43 (.tmp 12) (.tmp 47) rfl rfl g12 m.tree ?hx ?hy 43 _ BK12.out (by kernel_rfl) rfl (by simp [Value.oneCell', Msh.mesh, Msh.tree]) HB.out GE12.out ?_; (case hx => first | (go_simp; done) | rfl); (case hy => first | (go_simp; done) | rfl | (go_simp; rfl)); intro w19 hbox hb hk; have hsz_ := size_of_but BK12.out hbox hk; replace LV := Aside0.mk (LV.out.but BK12.out (.inr (.inl rfl)) GE12.out hsz_ hk); replace BK12 := Aside0.mk hbox; replace HB := Aside0.mk hb; replace BK11 := Aside0.mk ((hk _ NE11_12.out).trans BK11.out); clear hbox hb hk hsz_)
           | (go_at_call 17; (with_reducible refine (LV.out.kept_as (by have := HN1.out; omega) HID.out).mono ?_); rintro e w21 ⟨A, ca, rfl, hca, hb, hC⟩; replace LV := Aside0.mk (LV.out.below hb); have HK := Aside0.mk (hC w.heap.size); replace HB := Aside0.mk (below_step (HB.out) hb); clear hb hC))
          clear x0
          have hcx := HX.out w21 HB.out
          go_loopg [15, 16] ids.length (fun kq v15 v16 w' => ∃ k : Nat, v16 = .int .i64 k ∧ v15 = .bool (amid ids x k) ∧ Aside0 (k + kq = ids.length) ∧ ∃ n, w' = w21.drewN n)
          case atStart => exact ⟨0, rfl, rfl, ⟨by omega⟩, 0, rfl⟩
          case round =>
           obtain ⟨k, rfl, rfl, HJ2, ⟨n, rfl⟩⟩ := hrel
           have hj2 := HJ2.out
           by_cases hk : k < ids.length
           · have e1 : decide ((k : Int) < (ids.length : Int)) = true := decide_eq_true (by omega)
             have k0 : 0 ≤ (k : Int) := by omega
             have k9 : (k : Int) < (ids.length : Int) := by omega
             obtain ⟨ad2, e2, hc2⟩ := Kd.at_int HK.out.1 (k : Int) k0 k9
             cases e2
             rw [Int.toNat_natCast] at hc2
             have hst : amid ids x (k + 1) = (amid ids x k || (rd ids (k : Int) == x)) := by rw [amid_step ids x k hk]; rfl
             have HST := Aside0.mk hst
             clear hst
             generalize rd ids (k : Int) = y at *
             cases gk with
             | zero => omega
             | succ k2 =>
              cases hb : amid ids x k with
              | true =>
               rw [hb] at HST
               clear hb
               go_wp2
               go_quiet (fail)
               go_wp2
               go_roundg k2
               case measure => omega
               case rel => exact ⟨k + 1, by simp, by rw [HST.out]; rfl, ⟨by omega⟩, by first | exact ⟨_, rfl⟩ | exact ⟨_, (World.drewN_drewN _ _ _).symm⟩ | exact ⟨_, World.drewN_drewN _ _ _⟩⟩
              | false =>
               rw [hb] at HST
               clear hb
               go_wp2
               go_quiet (fail)
               go_wp2
               go_roundg k2
               case measure => omega
               case rel => exact ⟨k + 1, by simp, by rw [HST.out]; rfl, ⟨by omega⟩, by first | exact ⟨_, rfl⟩ | exact ⟨_, (World.drewN_drewN _ _ _).symm⟩ | exact ⟨_, World.drewN_drewN _ _ _⟩⟩
           · have e1 : decide ((k : Int) < (ids.length : Int)) = false := decide_eq_false (by omega)
             have e2 : k = ids.length := by omega
             subst e2
             rw [HAF.out]
             have hts := HTS.out
             have hsx := HSX.out w21 HB.out
             replace LV := Aside0.mk (LV.out.drewN n)
             replace HB := Aside0.mk (pw_below_drewN HB.out n)
             generalize hW3 : w21.drewN n = w3 at *
             have hcx3 := HX.out w3 HB.out
             have hsx3 := HSX.out w3 HB.out
             go_wp2_with (first
              | (go_at_call 20; (with_reducible refine (LV.out.tally_as HE1.out).mono ?_); rintro e wt ⟨rfl, hb⟩; replace LV := Aside0.mk (LV.out.below hb); replace HB := Aside0.mk (below_step (HB.out) hb); clear hb)
              | ((with_reducible refine gate_dst (N := 17) rfl ?_); refine box_event ?hg (N := 17) ?hd (cs := #[.int .i64 0, .int .i64 0, .int .i64 0, .int .i64 0]) (t := 32) ?hr ?_; (case hd => rfl); (case hg => rfl); (case hr => first | (go_simp; done) | (go_simp; rfl)); intro g17 hg w22 hbox hb; have BK17 := Aside0.mk (hbox); have GE17 := Aside0.mk (bG hg (HB.out)); replace LV := Aside0.mk (LV.out.below hb); replace HB := Aside0.mk (below_step (HB.out) hb); clear hb hbox hg)
              | ((with_reducible refine gate_store2 (t := 32) (x := .tmp 17) (y := .tmp 84) rfl ?_); refine ev_row (B := w.heap.size) (w0 := w) rfl 32 (.tmp 17) (.tmp 84) rfl rfl g17 #[.int .i64 t1, .int .i64 t2, .int .i64 t3, .int .i64 t4] ?hx ?hy 32 _ BK17.out (by kernel_rfl) rfl (by simp [Value.oneCell', Msh.mesh, Msh.tree]) HB.out GE17.out ?_; (case hx => first | (go_simp; done) | rfl); (case hy => first | (go_simp; done) | rfl | (go_simp; rfl)); intro w23 hbox hb hk; have hsz_ := size_of_but BK17.out hbox hk; replace LV := Aside0.mk (LV.out.but BK17.out (.inr (.inr (.inl rfl))) GE17.out hsz_ hk); replace BK17 := Aside0.mk hbox; replace HB := Aside0.mk hb; have x23 := HX.out w23 hb; clear hbox hb hk hsz_)
              | (go_at_call 13; (with_reducible refine (LV.out.get_ok HS.out HXI.out HBD.out HN1.out).mono ?_); rintro e w24 ⟨m2, s2, hmi2, hmn2, rfl, hms2, hgt⟩; replace BK17 := Aside0.mk (kept_blk hgt.left BK17.out (by decide) LV.out.at_); replace HB := Aside0.mk (HB.out.trans hgt.left.frame.below); replace LV := Aside0.mk hgt.live; clear hgt))
             have TLd : Calls Try.prog 20 #[.pointer (some ⟨g, 0, none⟩)] w24.drew (fun x w2 => x = .returned (.agg #[.int .i64 t1, .int .i64 t2, .int .i64 t3, .int .i64 t4]) ∧ Below w24.drew.heap.size w24.drew w2) := (LV.out.below (below_drew1 (Below.refl _ _))).tally_as HTH.out
             have a0 : w24.cell? ⟨g17, 0, none⟩ = some (.int .i64 t1) := (blk_cell BK17.out 0).trans rfl
             have a1 : w24.cell? ⟨g17, 1, none⟩ = some (.int .i64 t2) := (blk_cell BK17.out 1).trans rfl
             have a2 : w24.cell? ⟨g17, 2, none⟩ = some (.int .i64 t3) := (blk_cell BK17.out 2).trans rfl
             have a3 : w24.cell? ⟨g17, 3, none⟩ = some (.int .i64 t4) := (blk_cell BK17.out 3).trans rfl
             have SA := Aside0.mk (And.intro a0 (And.intro a1 (And.intro a2 a3)))
             go_region_held3 (fun w' => w'.cell? ⟨g17, 0, none⟩ = some (.int .i64 t1) ∧ w'.cell? ⟨g17, 1, none⟩ = some (.int .i64 t2) ∧ w'.cell? ⟨g17, 2, none⟩ = some (.int .i64 t3) ∧ w'.cell? ⟨g17, 3, none⟩ = some (.int .i64 t4)) (first | exact SA.out | exact YC.out) (first
              | (go_at_call 20; (with_reducible refine TLd.mono ?_); rintro e w30 ⟨rfl, hb30⟩
                 have bb := blk_below (w := w24.drew) BK17.out hb30
                 have YC : Aside0 (w30.cell? ⟨g17, 0, none⟩ = some (.int .i64 t1) ∧ w30.cell? ⟨g17, 1, none⟩ = some (.int .i64 t2) ∧ w30.cell? ⟨g17, 2, none⟩ = some (.int .i64 t3) ∧ w30.cell? ⟨g17, 3, none⟩ = some (.int .i64 t4)) := ⟨(blk_cell bb 0).trans rfl, (blk_cell bb 1).trans rfl, (blk_cell bb 2).trans rfl, (blk_cell bb 3).trans rfl⟩
                 have LVF := Aside0.mk ((LV.out.below (below_drew1 (Below.refl _ _))).below (w1 := w30) hb30)
                 have HBF := Aside0.mk (below_step (below_drew1 HB.out) hb30)
                 clear bb hb30))
             go_wp2
             go_roundg k1
             case measure => omega
             case rel => exact ⟨j + 1, by simp, _, rfl, ⟨by omega⟩, ⟨by rw [HRUN.out]; exact ⟨_, LVF.out⟩⟩, ⟨HBF.out⟩⟩
        · rw [decide_eq_false hf] at AA hth
          have HAF := Aside0.mk AA
          have HTS := Aside0.mk hth.symm
          clear AA hth TH hf
          go_wp2_with (first
           | (go_at_call 13; (with_reducible refine (LV.out.get_ok HS.out HXI.out HBD.out (by have := HNN.out; omega)).mono ?_); rintro e w14 ⟨m, s', hmi, hmn, rfl, hms, hgt⟩; replace HB := Aside0.mk (HB.out.trans hgt.left.frame.below); replace LV := Aside0.mk hgt.live; rw [HPP.out] at LV; clear hgt)
           | ((with_reducible refine gate_dst (N := 11) rfl ?_); refine box_event ?hg (N := 11) ?hd (cs := #[.slice none 0 0, .slice none 0 0, .slice none 0 0]) (t := 40) ?hr ?_; (case hd => rfl); (case hg => rfl); (case hr => first | (go_simp; done) | (go_simp; rfl)); intro g11 hg w15 hbox hb; have BK11 := Aside0.mk (hbox); have GE11 := Aside0.mk (bG hg (HB.out)); replace LV := Aside0.mk (LV.out.below hb); replace HB := Aside0.mk (below_step (HB.out) hb); clear hb hbox hg)
           | ((with_reducible refine gate_dst (N := 12) rfl ?_); refine box_event ?hg (N := 12) ?hd (cs := #[.slice none 0 0, .slice none 0 0]) (t := 43) ?hr ?_; (case hd => rfl); (case hg => rfl); (case hr => first | (go_simp; done) | (go_simp; rfl)); intro g12 hg w16 hbox hb; have BK12 := Aside0.mk (hbox); have GE12 := Aside0.mk (bG hg (HB.out)); have NE11_12 := cN hg BK11; replace BK11 := cB hb BK11; replace LV := Aside0.mk (LV.out.below hb); replace HB := Aside0.mk (below_step (HB.out) hb); clear hb hbox hg)
           | ((with_reducible refine gate_store2 (t := 40) (x := .tmp 11) (y := .tmp 46) rfl ?_); refine ev_row (B := w.heap.size) (w0 := w) rfl 40 (.tmp 11) (.tmp 46) rfl rfl g11 m.mesh ?hx ?hy 40 _ BK11.out (by kernel_rfl) rfl (by simp [Value.oneCell', Msh.mesh, Msh.tree]) HB.out GE11.out ?_; (case hx => first | (go_simp; done) | rfl); (case hy => first | (go_simp; done) | rfl | (go_simp; rfl)); intro w18 hbox hb hk; have hsz_ := size_of_but BK11.out hbox hk; replace LV := Aside0.mk (LV.out.but BK11.out (.inl rfl) GE11.out hsz_ hk); replace BK11 := Aside0.mk hbox; replace HB := Aside0.mk hb; replace BK12 := Aside0.mk ((hk _ (Ne.symm NE11_12.out)).trans BK12.out); clear hbox hb hk hsz_)
           | ((with_reducible refine gate_store2 (t := 43) (x := .tmp 12) (y := .tmp 47) rfl ?_); refine ev_row (B := w.heap.size) (w0 := w) rfl 43 (.tmp 12) (.tmp 47) rfl rfl g12 m.tree ?hx ?hy 43 _ BK12.out (by kernel_rfl) rfl (by simp [Value.oneCell', Msh.mesh, Msh.tree]) HB.out GE12.out ?_; (case hx => first | (go_simp; done) | rfl); (case hy => first | (go_simp; done) | rfl | (go_simp; rfl)); intro w19 hbox hb hk; have hsz_ := size_of_but BK12.out hbox hk; replace LV := Aside0.mk (LV.out.but BK12.out (.inr (.inl rfl)) GE12.out hsz_ hk); replace BK12 := Aside0.mk hbox; replace HB := Aside0.mk hb; replace BK11 := Aside0.mk ((hk _ NE11_12.out).trans BK11.out); clear hbox hb hk hsz_)
           | (go_at_call 17; (with_reducible refine (LV.out.kept_as (by have := HN1.out; omega) HID.out).mono ?_); rintro e w21 ⟨A, ca, rfl, hca, hb, hC⟩; replace LV := Aside0.mk (LV.out.below hb); have HK := Aside0.mk (hC w.heap.size); replace HB := Aside0.mk (below_step (HB.out) hb); clear hb hC))
          clear x0
          have hcx := HX.out w21 HB.out
          go_loopg [15, 16] ids.length (fun kq v15 v16 w' => ∃ k : Nat, v16 = .int .i64 k ∧ v15 = .bool (amid ids x k) ∧ Aside0 (k + kq = ids.length) ∧ ∃ n, w' = w21.drewN n)
          case atStart => exact ⟨0, rfl, rfl, ⟨by omega⟩, 0, rfl⟩
          case round =>
           obtain ⟨k, rfl, rfl, HJ2, ⟨n, rfl⟩⟩ := hrel
           have hj2 := HJ2.out
           by_cases hk : k < ids.length
           · have e1 : decide ((k : Int) < (ids.length : Int)) = true := decide_eq_true (by omega)
             have k0 : 0 ≤ (k : Int) := by omega
             have k9 : (k : Int) < (ids.length : Int) := by omega
             obtain ⟨ad2, e2, hc2⟩ := Kd.at_int HK.out.1 (k : Int) k0 k9
             cases e2
             rw [Int.toNat_natCast] at hc2
             have hst : amid ids x (k + 1) = (amid ids x k || (rd ids (k : Int) == x)) := by rw [amid_step ids x k hk]; rfl
             have HST := Aside0.mk hst
             clear hst
             generalize rd ids (k : Int) = y at *
             cases gk with
             | zero => omega
             | succ k2 =>
              cases hb : amid ids x k with
              | true =>
               rw [hb] at HST
               clear hb
               go_wp2
               go_quiet (fail)
               go_wp2
               go_roundg k2
               case measure => omega
               case rel => exact ⟨k + 1, by simp, by rw [HST.out]; rfl, ⟨by omega⟩, by first | exact ⟨_, rfl⟩ | exact ⟨_, (World.drewN_drewN _ _ _).symm⟩ | exact ⟨_, World.drewN_drewN _ _ _⟩⟩
              | false =>
               rw [hb] at HST
               clear hb
               go_wp2
               go_quiet (fail)
               go_wp2
               go_roundg k2
               case measure => omega
               case rel => exact ⟨k + 1, by simp, by rw [HST.out]; rfl, ⟨by omega⟩, by first | exact ⟨_, rfl⟩ | exact ⟨_, (World.drewN_drewN _ _ _).symm⟩ | exact ⟨_, World.drewN_drewN _ _ _⟩⟩
           · have e1 : decide ((k : Int) < (ids.length : Int)) = false := decide_eq_false (by omega)
             have e2 : k = ids.length := by omega
             subst e2
             rw [HAF.out]
             have hts := HTS.out
             have hsx := HSX.out w21 HB.out
             replace LV := Aside0.mk (LV.out.drewN n)
             replace HB := Aside0.mk (pw_below_drewN HB.out n)
             generalize hW3 : w21.drewN n = w3 at *
             have hcx3 := HX.out w3 HB.out
             have hsx3 := HSX.out w3 HB.out
             go_wp2_with (first
              | (go_at_call 20; (with_reducible refine (LV.out.tally_as HE1.out).mono ?_); rintro e wt ⟨rfl, hb⟩; replace LV := Aside0.mk (LV.out.below hb); replace HB := Aside0.mk (below_step (HB.out) hb); clear hb)
              | ((with_reducible refine gate_dst (N := 17) rfl ?_); refine box_event ?hg (N := 17) ?hd (cs := #[.int .i64 0, .int .i64 0, .int .i64 0, .int .i64 0]) (t := 32) ?hr ?_; (case hd => rfl); (case hg => rfl); (case hr => first | (go_simp; done) | (go_simp; rfl)); intro g17 hg w22 hbox hb; have BK17 := Aside0.mk (hbox); have GE17 := Aside0.mk (bG hg (HB.out)); replace LV := Aside0.mk (LV.out.below hb); replace HB := Aside0.mk (below_step (HB.out) hb); clear hb hbox hg)
              | ((with_reducible refine gate_store2 (t := 32) (x := .tmp 17) (y := .tmp 84) rfl ?_); refine ev_row (B := w.heap.size) (w0 := w) rfl 32 (.tmp 17) (.tmp 84) rfl rfl g17 #[.int .i64 t1, .int .i64 t2, .int .i64 t3, .int .i64 t4] ?hx ?hy 32 _ BK17.out (by kernel_rfl) rfl (by simp [Value.oneCell', Msh.mesh, Msh.tree]) HB.out GE17.out ?_; (case hx => first | (go_simp; done) | rfl); (case hy => first | (go_simp; done) | rfl | (go_simp; rfl)); intro w23 hbox hb hk; have hsz_ := size_of_but BK17.out hbox hk; replace LV := Aside0.mk (LV.out.but BK17.out (.inr (.inr (.inl rfl))) GE17.out hsz_ hk); replace BK17 := Aside0.mk hbox; replace HB := Aside0.mk hb; have x23 := HX.out w23 hb; clear hbox hb hk hsz_)
              | (go_at_call 13; (with_reducible refine (LV.out.get_ok HS.out HXI.out HBD.out HN1.out).mono ?_); rintro e w24 ⟨m2, s2, hmi2, hmn2, rfl, hms2, hgt⟩; replace BK17 := Aside0.mk (kept_blk hgt.left BK17.out (by decide) LV.out.at_); replace HB := Aside0.mk (HB.out.trans hgt.left.frame.below); replace LV := Aside0.mk hgt.live; clear hgt))
             go_quiet (fail)
             go_wp2
             go_roundg k1
             case measure => omega
             case rel => exact ⟨j + 1, by simp, _, rfl, ⟨by omega⟩, ⟨by rw [HRUN.out]; exact ⟨_, LV.out.drewN _⟩⟩, ⟨pw_below_drewN HB.out _⟩⟩
    · have c1 : decide ((j : Int) < (gets.length : Int)) = false := decide_eq_false (by omega)
      go_wp2
      go_ret
      exact ⟨rfl, HB.out⟩
theorem CacheLast_walk (a0 : Int) (a1 : Option Addr) (len1 cap1 : Nat) (z1 : List Int) (a2 : Option Addr) (len2 cap2 : Nat) (z2 : List Int) (a3 : Option Addr) (len3 cap3 : Nat) (z3 : List Int) (w : World) (w0 : (Lit.int .i64 a0).wf = true) (w1 : (a1 = none ∧ len1 = 0 ∧ cap1 = 0 ∧ z1 = []) ∨ ∃ x, a1 = some x ∧ len1 ≤ cap1 ∧ cap1 ≤ maxLen ∧ z1.length = cap1 ∧ (∀ i, i < z1.length → w.cell? (x.add i) = some (.int .i64 (z1.getD i 0))) ∧ ∀ n ∈ z1, (Lit.int .i64 n).wf = true) (y1 : len1 * 8 ≤ 140737488351232) (w2 : (a2 = none ∧ len2 = 0 ∧ cap2 = 0 ∧ z2 = []) ∨ ∃ x, a2 = some x ∧ len2 ≤ cap2 ∧ cap2 ≤ maxLen ∧ z2.length = cap2 ∧ (∀ i, i < z2.length → w.cell? (x.add i) = some (.int .i64 (z2.getD i 0))) ∧ ∀ n ∈ z2, (Lit.int .i64 n).wf = true) (y2 : len2 * 8 ≤ 140737488351232) (w3 : (a3 = none ∧ len3 = 0 ∧ cap3 = 0 ∧ z3 = []) ∨ ∃ x, a3 = some x ∧ len3 ≤ cap3 ∧ cap3 ≤ maxLen ∧ z3.length = cap3 ∧ (∀ i, i < z3.length → w.cell? (x.add i) = some (.int .i64 (z3.getD i 0))) ∧ ∀ n ∈ z3, (Lit.int .i64 n).wf = true) (y3 : len3 * 8 ≤ 140737488351232) :
    Calls Try.prog 7 #[.int .i64 a0, .slice a1 len1 cap1, .slice a2 len2 cap2, .slice a3 len3 cap3] w fun e w' => e = .returned (.bool true) ∧ Below w.heap.size w w' := by
  obtain ⟨l1, rfl, hr1, hm1, hw1, hc1⟩ := ReadsInt.ofRowC w1
  obtain ⟨l2, rfl, hr2, hm2, hw2, hc2⟩ := ReadsInt.ofRowC w2
  obtain ⟨l3, rfl, hr3, hm3, hw3, hc3⟩ := ReadsInt.ofRowC w3
  exact last.calls a0 _ _ l1 _ _ l2 _ _ l3 w (i64_wf w0) (Kd.C_of_reads (d := (0 : Int)) (h1 := fun _ => rfl) hr1) hc1 (Kd.C_of_reads (d := (0 : Int)) (h1 := fun _ => rfl) hr2) hc2 (Kd.C_of_reads (d := (0 : Int)) (h1 := fun _ => rfl) hr3) hc3 (fun x hx => i64_wf (hw3 x hx))
end Go.Proofs.Ytfhjdhhflpekiaa.G
