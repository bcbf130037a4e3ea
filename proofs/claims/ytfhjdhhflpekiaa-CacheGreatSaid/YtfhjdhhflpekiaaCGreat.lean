/- The walk of CacheGreat. -/
import Derived.Test.YtfhjdhhflpekiaaCSeen
namespace Go.Proofs.Ytfhjdhhflpekiaa.G
open Go.RowKit Go.Proofs.Cache Go.Proofs.YtfhjdhhflpekiaaW.PrintWords Go.Proofs.YtfhjdhhflpekiaaW.PrintLast Go.Proofs.YtfhjdhhflpekiaaW.PrintMore
set_option linter.unusedVariables false
set_option linter.unusedSimpArgs false
theorem fld32 (w : World) (a b c d : Value) : (Instr.field 32 (.agg #[a, b, c, d]) 0).run Try.prog w = .ok a w ∧ (Instr.field 32 (.agg #[a, b, c, d]) 1).run Try.prog w = .ok b w ∧ (Instr.field 32 (.agg #[a, b, c, d]) 2).run Try.prog w = .ok c w := by
  refine ⟨?_, ?_, ?_⟩ <;> kernel_rfl
set_option maxHeartbeats 4000000 in
set_option maxRecDepth 100000 in
theorem cgreat.calls (A2 : Option Addr) (c2 : Nat) (sizes : List Int) (A3 : Option Addr) (c3 : Nat) (gets : List Int) (w : World)
    (hr2 : Kd.C (Kd.int .i64) w A2 sizes.length sizes) (hc2 : sizes.length ≤ c2) (hr3 : Kd.C (Kd.int .i64) w A3 gets.length gets) (hc3 : gets.length ≤ c3) (hg : ∀ x ∈ gets, I64 x) :
    Calls Try.prog 6 #[.slice A2 sizes.length c2, .slice A3 gets.length c3] w fun e w' => e = .returned (.bool true) ∧ Below w.heap.size w w' := by
  have hu40 := Try.underlying40
  have hu43 := Try.underlying43
  have hu32 := Try.underlying32
  have hmm := @run_makeMap Try.prog
  have HB := Aside0.mk (Below.refl w.heap.size w)
  have HR2 := Aside0.mk hr2
  have HR3 := Aside0.mk hr3
  have HC2 := Aside0.mk hc2
  have HC3 := Aside0.mk hc3
  have HG := Aside0.mk hg
  clear hr2 hr3 hc2 hc3 hg
  go_enter Try.func6, Try.ntmps6
  go_wp2_with (go_at_call 8; (with_reducible refine (alive.calls _).mono ?_); rintro e w1 ⟨rfl, hb⟩; replace HB := Aside0.mk (below_step HB.out hb); clear hb)
  refine (great_calls A2 c2 sizes none 0 [] A3 c3 gets _ (Kd.C_below HR2.out HB.out) HC2.out (kd_nil _ _) (Nat.le_refl _) (Kd.C_below HR3.out HB.out) HC3.out).mono ?_
  rintro e w2 ⟨r, rfl, ⟨m, rfl⟩, hgr⟩
  replace HB := Aside0.mk (pw_below_drewN HB.out m)
  cases r with
  | true =>
    go_wp2
    go_ret
    exact ⟨rfl, HB.out⟩
  | false =>
  have HGR := Aside0.mk (hgr rfl)
  clear hgr
  go_wp2_with (first
   | ((with_reducible refine gate_dst (N := 20) rfl ?_); refine box_event ?hg (N := 20) ?hd (cs := #[.slice A2 sizes.length c2]) (t := 30) ?hr ?_; (case hd => rfl); (case hg => rfl); (case hr => first | (go_simp; done) | (go_simp; rfl)); intro g20 hg w29 hbox hb; have BK20 := Aside0.mk (hbox); have GE20 := Aside0.mk (bG hg (HB.out)); replace HB := Aside0.mk (below_step (HB.out) hb); have MD : Aside0 (MadeAt w.heap.size sizes w29 g20) := ⟨⟨⟨_, _, BK20.out, HC2.out, (rd_arg HR2.out).int (.of_below HB.out)⟩⟩⟩; have NW : Calls Try.prog 11 #[.int .i64 (100000), .slice none 0 0, .iface 28 (.pointer (some ⟨g20, 0, none⟩))] w29 (LiveNew w.heap.size sizes (100000) [] w29) := live_new (B := w.heap.size) (sizes := sizes) (100000) none [] 0 g20 MD.out (kd_nil _ _) (Nat.le_refl _) (by decide) HB.out.size ⟨by decide, by decide⟩; clear hb hbox hg)
   | ((with_reducible refine gate_dst (N := 25) rfl ?_); refine box_event ?hg (N := 25) ?hd (cs := #[.slice A2 sizes.length c2]) (t := 30) ?hr ?_; (case hd => rfl); (case hg => rfl); (case hr => first | (go_simp; done) | (go_simp; rfl)); intro g25 hg w30 hbox hb; have BK25 := Aside0.mk (hbox); have GE25 := Aside0.mk (bG hg (HB.out)); replace LVA := Aside0.mk (LVA.out.below hb); replace HB := Aside0.mk (below_step (HB.out) hb); have MD : Aside0 (MadeAt w.heap.size sizes w30 g25) := ⟨⟨⟨_, _, BK25.out, HC2.out, (rd_arg HR2.out).int (.of_below HB.out)⟩⟩⟩; have NW : Calls Try.prog 11 #[.int .i64 (-3), .slice none 0 0, .iface 28 (.pointer (some ⟨g25, 0, none⟩))] w30 (LiveNew w.heap.size sizes (-3) [] w30) := live_new (B := w.heap.size) (sizes := sizes) (-3) none [] 0 g25 MD.out (kd_nil _ _) (Nat.le_refl _) (by decide) HB.out.size ⟨by decide, by decide⟩; clear hb hbox hg)
   | (go_at_call 11; (with_reducible refine NW.mono ?_); rintro e w11 ⟨ga, sa, rfl, hlv, hb, hmu⟩; have LVA := Aside0.mk hlv; replace HB := Aside0.mk (below_step HB.out hb); clear hlv hb hmu NW MD BK20 GE20)
   | (go_at_call 11; (with_reducible refine NW.mono ?_); rintro e w12 ⟨gb, sb, rfl, hlv, hb, hmu⟩; have LVB := Aside0.mk hlv; have DIS := Aside0.mk (dis_new LVA.out.at_ hmu); replace LVA := Aside0.mk (LVA.out.below hb); replace HB := Aside0.mk (below_step HB.out hb); clear hlv hb hmu NW MD BK25 GE25)
   | ((with_reducible refine gate_dst (N := 34) rfl ?_); refine map_event ?hg (N := 34) ?hd ?hr ?_; (case hd => rfl); (case hg => rfl); (case hr => first | (go_simp; done) | (go_simp; rfl)); intro mb hmb wm hsn hb; have SN := Aside0.mk hsn; have GM := Aside0.mk (bG hmb HB.out); replace LVA := Aside0.mk (LVA.out.below hb); replace LVB := Aside0.mk (LVB.out.below hb); replace HB := Aside0.mk (below_step HB.out hb); clear hmb hsn hb))
  have hgl : (gets.length : Int) ≤ 200 := by have := HGR.out.2.2.1; omega
  go_loopg [8, 9] gets.length (fun kq v8 v9 w' => ∃ j : Nat, v9 = .int .i64 j ∧ ∃ t : Int, v8 = .int .i64 t ∧ ∃ W, W = w' ∧ Aside0 (j + kq = gets.length) ∧ Aside0 (∃ sa sb, Live w.heap.size sizes W ga (runP sizes (startP 100000 []) gets j) sa ∧ Live w.heap.size sizes W gb (runP sizes (startP (-3) []) gets j) sb ∧ ∀ k, Mut sa k → ¬ Mut sb k) ∧ Aside0 (Seen W mb j (ids (runP sizes (startP 100000 []) gets j))) ∧ Aside0 (GA (runP sizes (startP 100000 []) gets j) ∧ t = (runP sizes (startP (-3) []) gets j).tp) ∧ Aside0 (Below w.heap.size w W))
  case atStart => exact ⟨0, rfl, 0, rfl, _, rfl, ⟨by omega⟩, ⟨sa, sb, LVA.out, LVB.out, DIS.out⟩, SN, ⟨GA.start, rfl⟩, HB⟩
  case round =>
    clear LVA LVB DIS HB SN sa sb
    obtain ⟨j, rfl, t, rfl, W, rfl, HJ1, HLV, SN, HGT, HB⟩ := hrel
    have hj := HJ1.out
    obtain ⟨sa, sb, hla, hlb, hds⟩ := HLV.out
    have LVA := Aside0.mk hla
    have LVB := Aside0.mk hlb
    have DIS := Aside0.mk hds
    clear hla hlb hds HLV
    have hnwa : (runP sizes (startP 100000 []) gets j).now = j := by rw [run_now]; show (0 : Int) + j = j; omega
    have hnwb : (runP sizes (startP (-3) []) gets j).now = j := by rw [run_now]; show (0 : Int) + j = j; omega
    have hrob : (runP sizes (startP (-3) []) gets j).room = 0 := by rw [run_room]; rfl
    have hrna : runP sizes (startP 100000 []) gets (j + 1) = getP sizes (runP sizes (startP 100000 []) gets j) (rd gets (j : Int)) := by rw [runP]; rfl
    have hrnb : runP sizes (startP (-3) []) gets (j + 1) = getP sizes (runP sizes (startP (-3) []) gets j) (rd gets (j : Int)) := by rw [runP]; rfl
    have HRA := Aside0.mk hrna
    have HRB := Aside0.mk hrnb
    clear hrna hrnb
    by_cases hlt : j < gets.length
    · have c1 : decide ((j : Int) < (gets.length : Int)) = true := decide_eq_true (by omega)
      have i0 : 0 ≤ (j : Int) := by omega
      have i1 : (j : Int) < (gets.length : Int) := by omega
      obtain ⟨ad, rfl, hcell⟩ := Kd.at_int HR3.out (j : Int) i0 i1
      have HX : Aside0 (∀ W', Below w.heap.size w W' → W'.cell? (ad.add j) = some (.int .i64 (rd gets (j : Int)))) := ⟨fun W' hb => (cell_grow_below hb HR3.out hlt).trans hcell⟩
      have hgs := HGR.out.2.2.2
      have HS := Aside0.mk hgs
      clear hgs
      have hxm : rd gets (j : Int) ∈ gets := by
        show gets.getD (j : Int).toNat 0 ∈ gets
        rw [Int.toNat_natCast, List.getD_eq_getElem?_getD, List.getElem?_eq_getElem hlt]
        exact List.getElem_mem _
      have HXI := Aside0.mk (HG.out _ hxm)
      clear hcell hxm
      generalize rd gets (j : Int) = x at *
      generalize runP sizes (startP 100000 []) gets j = p at *
      generalize runP sizes (startP (-3) []) gets j = q at *
      have HNA : Aside0 (p.now ≤ 999990) := ⟨by omega⟩
      have HNB : Aside0 (q.now ≤ 999990) := ⟨by omega⟩
      have x0 := HX.out W HB.out
      have HGA : Aside0 (GA (getP sizes p x)) := ⟨HGT.out.1.get LVA.out.inv HS.out HGR.out.1⟩
      have hgb := gb_tp (i := x) LVB.out.inv hrob
      have ht := LVB.out.inv.tp
      have ht2 := LVB.out.inv.tb
      rw [← HGT.out.2] at hgb ht
      have ht0 : 0 ≤ t := ht.1
      have ht1 : t ≤ 1000000 := by omega
      clear hnwa hnwb hrob ht ht2
      cases gk with
      | zero => omega
      | succ k1 =>
      by_cases hbd : badI sizes x = true
      · have HBD := Aside0.mk hbd
        rw [if_neg (by rw [hbd]; simp)] at hgb
        have HGB := Aside0.mk hgb
        have HID : Aside0 (ids (getP sizes p x) = ids p) := ⟨by rw [get_bad_eq LVA.out.inv hbd]; rfl⟩
        clear hbd hgb
        go_wp2_with (first
           | (go_at_call 13; (with_reducible refine (LVA.out.get_bad HS.out HXI.out HBD.out (by have := HNA.out; omega)).mono ?_); rintro e w13 ⟨sa', rfl, hgt⟩; have LVBo := LVB.out; replace LVB := Aside0.mk (LVB.out.other LVA.out.at_ hgt.left DIS.out); replace SN := Aside0.mk (SN.out.left LVA.out.at_ hgt.left); replace DIS := Aside0.mk (dis_a (sb := sb) LVBo.at_ hgt.left DIS.out); replace HB := Aside0.mk (HB.out.trans hgt.left.frame.below); replace LVA := Aside0.mk hgt.live; clear LVBo; clear hgt)
           | ((with_reducible refine gate_dst (N := 10) rfl ?_); refine box_event ?hg (N := 10) ?hd (cs := #[.slice none 0 0, .slice none 0 0, .slice none 0 0]) (t := 40) ?hr ?_; (case hd => rfl); (case hg => rfl); (case hr => first | (go_simp; done) | (go_simp; rfl)); intro g10 hg w14 hbox hb; have BK10 := Aside0.mk (hbox); have GE10 := Aside0.mk (bG hg (HB.out)); replace LVA := Aside0.mk (LVA.out.below hb); replace LVB := Aside0.mk (LVB.out.below hb);  replace SN := Aside0.mk (SN.out.below hb); replace HB := Aside0.mk (below_step (HB.out) hb); clear hb hbox hg)
           | ((with_reducible refine gate_dst (N := 11) rfl ?_); refine box_event ?hg (N := 11) ?hd (cs := #[.slice none 0 0, .slice none 0 0]) (t := 43) ?hr ?_; (case hd => rfl); (case hg => rfl); (case hr => first | (go_simp; done) | (go_simp; rfl)); intro g11 hg w15 hbox hb; have BK11 := Aside0.mk (hbox); have GE11 := Aside0.mk (bG hg (HB.out)); have NE10_11 := cN hg BK10; replace BK10 := cB hb BK10; replace LVA := Aside0.mk (LVA.out.below hb); replace LVB := Aside0.mk (LVB.out.below hb);  replace SN := Aside0.mk (SN.out.below hb); replace HB := Aside0.mk (below_step (HB.out) hb); clear hb hbox hg)
           | ((with_reducible refine gate_store2 (t := 40) (x := .tmp 10) (y := .tmp 48) rfl ?_); refine ev_row (B := w.heap.size) (w0 := w) rfl 40 (.tmp 10) (.tmp 48) rfl rfl g10 #[.slice none 0 0, .slice none 0 0, .slice none 0 0] ?hx ?hy 40 _ BK10.out (by kernel_rfl) rfl (by simp [Value.oneCell', Msh.mesh, Msh.tree]) HB.out GE10.out ?_; (case hx => first | (go_simp; done) | rfl); (case hy => first | (go_simp; done) | rfl | (go_simp; rfl)); intro w16 hbox hb hk; have hsz_ := size_of_but BK10.out hbox hk; replace LVA := Aside0.mk (LVA.out.but BK10.out (.inl rfl) GE10.out hsz_ hk); replace LVB := Aside0.mk (LVB.out.but BK10.out (.inl rfl) GE10.out hsz_ hk); replace SN := Aside0.mk (SN.out.but BK10.out hk); replace BK10 := Aside0.mk hbox; replace HB := Aside0.mk hb; replace BK11 := Aside0.mk ((hk _ (Ne.symm NE10_11.out)).trans BK11.out); clear hbox hb hk hsz_)
           | ((with_reducible refine gate_store2 (t := 43) (x := .tmp 11) (y := .tmp 49) rfl ?_); refine ev_row (B := w.heap.size) (w0 := w) rfl 43 (.tmp 11) (.tmp 49) rfl rfl g11 #[.slice none 0 0, .slice none 0 0] ?hx ?hy 43 _ BK11.out (by kernel_rfl) rfl (by simp [Value.oneCell', Msh.mesh, Msh.tree]) HB.out GE11.out ?_; (case hx => first | (go_simp; done) | rfl); (case hy => first | (go_simp; done) | rfl | (go_simp; rfl)); intro w17 hbox hb hk; have hsz_ := size_of_but BK11.out hbox hk; replace LVA := Aside0.mk (LVA.out.but BK11.out (.inr (.inl rfl)) GE11.out hsz_ hk); replace LVB := Aside0.mk (LVB.out.but BK11.out (.inr (.inl rfl)) GE11.out hsz_ hk); replace SN := Aside0.mk (SN.out.but BK11.out hk); replace BK11 := Aside0.mk hbox; replace HB := Aside0.mk hb; replace BK10 := Aside0.mk ((hk _ NE10_11.out).trans BK10.out); have x1 := HX.out w17 HB.out; clear hbox hb hk hsz_)
           | (go_at_call 13; (with_reducible refine (LVB.out.get_bad HS.out HXI.out HBD.out (by have := HNB.out; omega)).mono ?_); rintro e w18 ⟨sb', rfl, hgt⟩; have LVAo := LVA.out; replace LVA := Aside0.mk (LVA.out.other' LVB.out.at_ hgt.left DIS.out); replace SN := Aside0.mk (SN.out.left LVB.out.at_ hgt.left); replace DIS := Aside0.mk (dis_b LVAo.at_ hgt.left DIS.out); replace HB := Aside0.mk (HB.out.trans hgt.left.frame.below); replace LVB := Aside0.mk hgt.live; clear LVAo; clear hgt))
        go_roundg k1
        case measure => omega
        case rel => exact ⟨j + 1, by simp, t, by first | rfl | simp, _, rfl, ⟨by omega⟩, ⟨by rw [HRA.out, HRB.out]; exact ⟨_, _, LVA.out, LVB.out, DIS.out⟩⟩, ⟨by rw [HRA.out, HID.out]; exact SN.out.mono (Nat.le_succ _)⟩, ⟨by rw [HRA.out, HRB.out]; exact ⟨HGA.out, HGB.out.symm⟩⟩, ⟨HB.out⟩⟩
      · have hbd' : badI sizes x = false := by simpa using hbd
        have HBD := Aside0.mk hbd'
        have HID : Aside0 (ids (getP sizes p x) = addId (ids p) x) := ⟨ga_ids HGT.out.1 LVA.out.inv HS.out HGR.out.1 hbd'⟩
        have hb2 := bad_no hbd'
        have hx0 : 0 ≤ x := hb2.1
        have hx1 : x < (sizes.length : Int) := hb2.2
        obtain ⟨ads, rfl, hsc⟩ := Kd.at_int HR2.out x hx0 hx1
        have HSX : Aside0 (∀ W', Below w.heap.size w W' → W'.cell? (ads.add x.toNat) = some (.int .i64 (rd sizes x))) := ⟨fun W' hb => (cell_grow_below hb HR2.out (by omega)).trans hsc⟩
        have hrdx : sizes.getD x.toNat 0 = rd sizes x := rfl
        rw [hrdx] at hgb
        clear hsc hrdx hb2
        generalize rd sizes x = sx at *
        have HJM : Aside0 (j < maxLen) := ⟨by unfold maxLen; omega⟩
        by_cases hsz : sx > 0
        · have d2 : decide (sx > 0) = true := decide_eq_true hsz
          rw [if_pos ⟨hbd', hsz⟩] at hgb
          have HGB := Aside0.mk hgb
          clear hbd hbd' hgb hsz
          go_wp2_with (first
             | (go_at_call 13; (with_reducible refine (LVA.out.get_ok HS.out HXI.out HBD.out (by have := HNA.out; omega)).mono ?_); rintro e w13 ⟨m, sa', hmi, hmn, rfl, hms, hgt⟩; have LVBo := LVB.out; replace LVB := Aside0.mk (LVB.out.other LVA.out.at_ hgt.left DIS.out); replace SN := Aside0.mk (SN.out.left LVA.out.at_ hgt.left); replace DIS := Aside0.mk (dis_a (sb := sb) LVBo.at_ hgt.left DIS.out); replace HB := Aside0.mk (HB.out.trans hgt.left.frame.below); replace LVA := Aside0.mk hgt.live; clear hmi hmn hms; clear LVBo; clear hgt)
             | ((with_reducible refine gate_dst (N := 10) rfl ?_); refine box_event ?hg (N := 10) ?hd (cs := #[.slice none 0 0, .slice none 0 0, .slice none 0 0]) (t := 40) ?hr ?_; (case hd => rfl); (case hg => rfl); (case hr => first | (go_simp; done) | (go_simp; rfl)); intro g10 hg w14 hbox hb; have BK10 := Aside0.mk (hbox); have GE10 := Aside0.mk (bG hg (HB.out)); replace LVA := Aside0.mk (LVA.out.below hb); replace LVB := Aside0.mk (LVB.out.below hb);  replace SN := Aside0.mk (SN.out.below hb); replace HB := Aside0.mk (below_step (HB.out) hb); clear hb hbox hg)
             | ((with_reducible refine gate_dst (N := 11) rfl ?_); refine box_event ?hg (N := 11) ?hd (cs := #[.slice none 0 0, .slice none 0 0]) (t := 43) ?hr ?_; (case hd => rfl); (case hg => rfl); (case hr => first | (go_simp; done) | (go_simp; rfl)); intro g11 hg w15 hbox hb; have BK11 := Aside0.mk (hbox); have GE11 := Aside0.mk (bG hg (HB.out)); have NE10_11 := cN hg BK10; replace BK10 := cB hb BK10; replace LVA := Aside0.mk (LVA.out.below hb); replace LVB := Aside0.mk (LVB.out.below hb);  replace SN := Aside0.mk (SN.out.below hb); replace HB := Aside0.mk (below_step (HB.out) hb); clear hb hbox hg)
             | ((with_reducible refine gate_store2 (t := 40) (x := .tmp 10) (y := .tmp 48) rfl ?_); refine ev_row (B := w.heap.size) (w0 := w) rfl 40 (.tmp 10) (.tmp 48) rfl rfl g10 m.mesh ?hx ?hy 40 _ BK10.out (by kernel_rfl) rfl (by simp [Value.oneCell', Msh.mesh, Msh.tree]) HB.out GE10.out ?_; (case hx => first | (go_simp; done) | rfl); (case hy => first | (go_simp; done) | rfl | (go_simp; rfl)); intro w16 hbox hb hk; have hsz_ := size_of_but BK10.out hbox hk; replace LVA := Aside0.mk (LVA.out.but BK10.out (.inl rfl) GE10.out hsz_ hk); replace LVB := Aside0.mk (LVB.out.but BK10.out (.inl rfl) GE10.out hsz_ hk); replace SN := Aside0.mk (SN.out.but BK10.out hk); replace BK10 := Aside0.mk hbox; replace HB := Aside0.mk hb; replace BK11 := Aside0.mk ((hk _ (Ne.symm NE10_11.out)).trans BK11.out); clear hbox hb hk hsz_)
             | ((with_reducible refine gate_store2 (t := 43) (x := .tmp 11) (y := .tmp 49) rfl ?_); refine ev_row (B := w.heap.size) (w0 := w) rfl 43 (.tmp 11) (.tmp 49) rfl rfl g11 m.tree ?hx ?hy 43 _ BK11.out (by kernel_rfl) rfl (by simp [Value.oneCell', Msh.mesh, Msh.tree]) HB.out GE11.out ?_; (case hx => first | (go_simp; done) | rfl); (case hy => first | (go_simp; done) | rfl | (go_simp; rfl)); intro w17 hbox hb hk; have hsz_ := size_of_but BK11.out hbox hk; replace LVA := Aside0.mk (LVA.out.but BK11.out (.inr (.inl rfl)) GE11.out hsz_ hk); replace LVB := Aside0.mk (LVB.out.but BK11.out (.inr (.inl rfl)) GE11.out hsz_ hk); replace SN := Aside0.mk (SN.out.but BK11.out hk); replace BK11 := Aside0.mk hbox; replace HB := Aside0.mk hb; replace BK10 := Aside0.mk ((hk _ NE10_11.out).trans BK10.out); have x1 := HX.out w17 HB.out; clear hbox hb hk hsz_)
             | (go_at_call 13; (with_reducible refine (LVB.out.get_ok HS.out HXI.out HBD.out (by have := HNB.out; omega)).mono ?_); rintro e w18 ⟨m', sb', hmi, hmn, rfl, hms, hgt⟩; have LVAo := LVA.out; replace LVA := Aside0.mk (LVA.out.other' LVB.out.at_ hgt.left DIS.out); replace SN := Aside0.mk (SN.out.left LVB.out.at_ hgt.left); replace DIS := Aside0.mk (dis_b LVAo.at_ hgt.left DIS.out); replace HB := Aside0.mk (HB.out.trans hgt.left.frame.below); replace LVB := Aside0.mk hgt.live; clear hmi hmn hms; have x2 := HX.out w18 HB.out; clear LVAo; clear hgt)
             | (at_mapUpdate; refine seen_event rfl _ _ _ rfl mb j (ids p) rfl SN.out HJM.out x rfl rfl HXI.out ?_; intro w19 hsn hg; replace LVA := Aside0.mk (LVA.out.grown SN.out GM.out hg); replace LVB := Aside0.mk (LVB.out.grown SN.out GM.out hg); replace HB := Aside0.mk (HB.out.grown hg HB.out.size (fun k e => by cases e; exact GM.out)); replace SN := Aside0.mk hsn; have x3 := HX.out w19 HB.out; have s3 := HSX.out w19 HB.out; clear hsn hg))
          go_roundg k1
          case measure => omega
          case rel => exact ⟨j + 1, by simp, t + 1, by first | rfl | simp, _, rfl, ⟨by omega⟩, ⟨by rw [HRA.out, HRB.out]; exact ⟨_, _, LVA.out, LVB.out, DIS.out⟩⟩, ⟨by rw [HRA.out, HID.out]; exact SN.out⟩, ⟨by rw [HRA.out, HRB.out]; exact ⟨HGA.out, HGB.out.symm⟩⟩, ⟨HB.out⟩⟩
        · have d2 : decide (sx > 0) = false := decide_eq_false hsz
          rw [if_neg (fun h => hsz h.2)] at hgb
          have HGB := Aside0.mk hgb
          clear hbd hbd' hgb hsz
          go_wp2_with (first
             | (go_at_call 13; (with_reducible refine (LVA.out.get_ok HS.out HXI.out HBD.out (by have := HNA.out; omega)).mono ?_); rintro e w13 ⟨m, sa', hmi, hmn, rfl, hms, hgt⟩; have LVBo := LVB.out; replace LVB := Aside0.mk (LVB.out.other LVA.out.at_ hgt.left DIS.out); replace SN := Aside0.mk (SN.out.left LVA.out.at_ hgt.left); replace DIS := Aside0.mk (dis_a (sb := sb) LVBo.at_ hgt.left DIS.out); replace HB := Aside0.mk (HB.out.trans hgt.left.frame.below); replace LVA := Aside0.mk hgt.live; clear hmi hmn hms; clear LVBo; clear hgt)
             | ((with_reducible refine gate_dst (N := 10) rfl ?_); refine box_event ?hg (N := 10) ?hd (cs := #[.slice none 0 0, .slice none 0 0, .slice none 0 0]) (t := 40) ?hr ?_; (case hd => rfl); (case hg => rfl); (case hr => first | (go_simp; done) | (go_simp; rfl)); intro g10 hg w14 hbox hb; have BK10 := Aside0.mk (hbox); have GE10 := Aside0.mk (bG hg (HB.out)); replace LVA := Aside0.mk (LVA.out.below hb); replace LVB := Aside0.mk (LVB.out.below hb);  replace SN := Aside0.mk (SN.out.below hb); replace HB := Aside0.mk (below_step (HB.out) hb); clear hb hbox hg)
             | ((with_reducible refine gate_dst (N := 11) rfl ?_); refine box_event ?hg (N := 11) ?hd (cs := #[.slice none 0 0, .slice none 0 0]) (t := 43) ?hr ?_; (case hd => rfl); (case hg => rfl); (case hr => first | (go_simp; done) | (go_simp; rfl)); intro g11 hg w15 hbox hb; have BK11 := Aside0.mk (hbox); have GE11 := Aside0.mk (bG hg (HB.out)); have NE10_11 := cN hg BK10; replace BK10 := cB hb BK10; replace LVA := Aside0.mk (LVA.out.below hb); replace LVB := Aside0.mk (LVB.out.below hb);  replace SN := Aside0.mk (SN.out.below hb); replace HB := Aside0.mk (below_step (HB.out) hb); clear hb hbox hg)
             | ((with_reducible refine gate_store2 (t := 40) (x := .tmp 10) (y := .tmp 48) rfl ?_); refine ev_row (B := w.heap.size) (w0 := w) rfl 40 (.tmp 10) (.tmp 48) rfl rfl g10 m.mesh ?hx ?hy 40 _ BK10.out (by kernel_rfl) rfl (by simp [Value.oneCell', Msh.mesh, Msh.tree]) HB.out GE10.out ?_; (case hx => first | (go_simp; done) | rfl); (case hy => first | (go_simp; done) | rfl | (go_simp; rfl)); intro w16 hbox hb hk; have hsz_ := size_of_but BK10.out hbox hk; replace LVA := Aside0.mk (LVA.out.but BK10.out (.inl rfl) GE10.out hsz_ hk); replace LVB := Aside0.mk (LVB.out.but BK10.out (.inl rfl) GE10.out hsz_ hk); replace SN := Aside0.mk (SN.out.but BK10.out hk); replace BK10 := Aside0.mk hbox; replace HB := Aside0.mk hb; replace BK11 := Aside0.mk ((hk _ (Ne.symm NE10_11.out)).trans BK11.out); clear hbox hb hk hsz_)
             | ((with_reducible refine gate_store2 (t := 43) (x := .tmp 11) (y := .tmp 49) rfl ?_); refine ev_row (B := w.heap.size) (w0 := w) rfl 43 (.tmp 11) (.tmp 49) rfl rfl g11 m.tree ?hx ?hy 43 _ BK11.out (by kernel_rfl) rfl (by simp [Value.oneCell', Msh.mesh, Msh.tree]) HB.out GE11.out ?_; (case hx => first | (go_simp; done) | rfl); (case hy => first | (go_simp; done) | rfl | (go_simp; rfl)); intro w17 hbox hb hk; have hsz_ := size_of_but BK11.out hbox hk; replace LVA := Aside0.mk (LVA.out.but BK11.out (.inr (.inl rfl)) GE11.out hsz_ hk); replace LVB := Aside0.mk (LVB.out.but BK11.out (.inr (.inl rfl)) GE11.out hsz_ hk); replace SN := Aside0.mk (SN.out.but BK11.out hk); replace BK11 := Aside0.mk hbox; replace HB := Aside0.mk hb; replace BK10 := Aside0.mk ((hk _ NE10_11.out).trans BK10.out); have x1 := HX.out w17 HB.out; clear hbox hb hk hsz_)
             | (go_at_call 13; (with_reducible refine (LVB.out.get_ok HS.out HXI.out HBD.out (by have := HNB.out; omega)).mono ?_); rintro e w18 ⟨m', sb', hmi, hmn, rfl, hms, hgt⟩; have LVAo := LVA.out; replace LVA := Aside0.mk (LVA.out.other' LVB.out.at_ hgt.left DIS.out); replace SN := Aside0.mk (SN.out.left LVB.out.at_ hgt.left); replace DIS := Aside0.mk (dis_b LVAo.at_ hgt.left DIS.out); replace HB := Aside0.mk (HB.out.trans hgt.left.frame.below); replace LVB := Aside0.mk hgt.live; clear hmi hmn hms; have x2 := HX.out w18 HB.out; clear LVAo; clear hgt)
             | (at_mapUpdate; refine seen_event rfl _ _ _ rfl mb j (ids p) rfl SN.out HJM.out x rfl rfl HXI.out ?_; intro w19 hsn hg; replace LVA := Aside0.mk (LVA.out.grown SN.out GM.out hg); replace LVB := Aside0.mk (LVB.out.grown SN.out GM.out hg); replace HB := Aside0.mk (HB.out.grown hg HB.out.size (fun k e => by cases e; exact GM.out)); replace SN := Aside0.mk hsn; have x3 := HX.out w19 HB.out; have s3 := HSX.out w19 HB.out; clear hsn hg))
          go_roundg k1
          case measure => omega
          case rel => exact ⟨j + 1, by simp, t, by first | rfl | simp, _, rfl, ⟨by omega⟩, ⟨by rw [HRA.out, HRB.out]; exact ⟨_, _, LVA.out, LVB.out, DIS.out⟩⟩, ⟨by rw [HRA.out, HID.out]; exact SN.out⟩, ⟨by rw [HRA.out, HRB.out]; exact ⟨HGA.out, HGB.out.symm⟩⟩, ⟨HB.out⟩⟩
    · have c1 : decide ((j : Int) < (gets.length : Int)) = false := decide_eq_false (by omega)
      generalize runP sizes (startP 100000 []) gets j = p at *
      generalize runP sizes (startP (-3) []) gets j = q at *
      obtain ⟨hga, htq⟩ := HGT.out
      obtain ⟨u1, hu1⟩ : ∃ a, p.tm = a := ⟨_, rfl⟩
      obtain ⟨u2, hu2⟩ : ∃ a, q.tb = a := ⟨_, rfl⟩
      obtain ⟨u3, hu3⟩ : ∃ a, q.td = a := ⟨_, rfl⟩
      obtain ⟨u4, hu4⟩ : ∃ a, q.tm = a := ⟨_, rfl⟩
      have HTA : Aside0 (p.tb = ((ids p).length : Int) ∧ p.td = 0 ∧ p.tp = 0 ∧ p.tm = u1) := ⟨hga.tb LVA.out.inv, hga.td, hga.tp, hu1⟩
      have HTB : Aside0 (q.tb = u2 ∧ q.td = u3 ∧ q.tp = t ∧ q.tm = u4) := ⟨hu2, hu3, htq.symm, hu4⟩
      have HHB : Aside0 (held q.kept = 0) := ⟨by have := LVB.out.inv.roomy; omega⟩
      have HNB : Aside0 (q.now ≤ 1000000) := ⟨by omega⟩
      obtain ⟨L, hL⟩ : ∃ L, ids p = L := ⟨_, rfl⟩
      rw [hL] at HTA SN
      clear hnwa hnwb hrob hga htq hL hu1 hu2 hu3 hu4
      have fl := fld32
      go_wp2_with (first
       | (go_at_call 20; (with_reducible refine (LVA.out.tally_as HTA.out).mono ?_); rintro e wa ⟨rfl, hb⟩; replace LVA := Aside0.mk (LVA.out.below hb); replace LVB := Aside0.mk (LVB.out.below hb); replace SN := Aside0.mk (SN.out.below hb); replace HB := Aside0.mk (below_step (HB.out) hb); have hln := SN.out.len; clear hb)
       | (go_at_call 20; (with_reducible refine (LVB.out.tally_as HTB.out).mono ?_); rintro e wb ⟨rfl, hb⟩; replace LVA := Aside0.mk (LVA.out.below hb); replace LVB := Aside0.mk (LVB.out.below hb); replace SN := Aside0.mk (SN.out.below hb); replace HB := Aside0.mk (below_step (HB.out) hb); clear hb)
       | (go_at_call 18; (with_reducible refine (LVB.out.held_as HNB.out HHB.out).mono ?_); rintro e w22 ⟨rfl, rfl⟩))
      go_ret
      exact ⟨rfl, HB.out⟩
theorem CacheGreat_walk (a0 : Option Addr) (len0 cap0 : Nat) (z0 : List Int) (a1 : Option Addr) (len1 cap1 : Nat) (z1 : List Int) (w : World) (w0 : (a0 = none ∧ len0 = 0 ∧ cap0 = 0 ∧ z0 = []) ∨ ∃ x, a0 = some x ∧ len0 ≤ cap0 ∧ cap0 ≤ maxLen ∧ z0.length = cap0 ∧ (∀ i, i < z0.length → w.cell? (x.add i) = some (.int .i64 (z0.getD i 0))) ∧ ∀ n ∈ z0, (Lit.int .i64 n).wf = true) (y0 : len0 * 8 ≤ 140737488351232) (w1 : (a1 = none ∧ len1 = 0 ∧ cap1 = 0 ∧ z1 = []) ∨ ∃ x, a1 = some x ∧ len1 ≤ cap1 ∧ cap1 ≤ maxLen ∧ z1.length = cap1 ∧ (∀ i, i < z1.length → w.cell? (x.add i) = some (.int .i64 (z1.getD i 0))) ∧ ∀ n ∈ z1, (Lit.int .i64 n).wf = true) (y1 : len1 * 8 ≤ 140737488351232) :
    Calls Try.prog 6 #[.slice a0 len0 cap0, .slice a1 len1 cap1] w fun e w' => e = .returned (.bool true) ∧ Below w.heap.size w w' := by
  obtain ⟨l0, rfl, hr0, hm0, hw0, hc0⟩ := ReadsInt.ofRowC w0
  obtain ⟨l1, rfl, hr1, hm1, hw1, hc1⟩ := ReadsInt.ofRowC w1
  exact cgreat.calls _ _ l0 _ _ l1 w (Kd.C_of_reads (d := (0 : Int)) (h1 := fun _ => rfl) hr0) hc0 (Kd.C_of_reads (d := (0 : Int)) (h1 := fun _ => rfl) hr1) hc1 (fun x hx => i64_wf (hw1 x hx))
end Go.Proofs.Ytfhjdhhflpekiaa.G
