/- The walk of CacheSame. -/
import Derived.Test.YtfhjdhhflpekiaaCTwo
namespace Go.Proofs.Ytfhjdhhflpekiaa.G
open Go.RowKit Go.Proofs.Cache Go.Proofs.YtfhjdhhflpekiaaW.PrintWords Go.Proofs.YtfhjdhhflpekiaaW.PrintLast Go.Proofs.YtfhjdhhflpekiaaW.PrintMore
set_option linter.unusedVariables false
set_option linter.unusedSimpArgs false
set_option maxHeartbeats 4000000 in
set_option maxRecDepth 100000 in
theorem same.calls (room other : Int) (A1 : Option Addr) (c1 : Nat) (picks : List Int) (A0 : Option Addr) (c0 : Nat) (more : List Int) (A2 : Option Addr) (c2 : Nat) (sizes : List Int) (A3 : Option Addr) (c3 : Nat) (gets : List Int) (w : World) (hroom : I64 room) (hother : I64 other)
    (hr1 : Kd.C (Kd.int .i64) w A1 picks.length picks) (hc1 : picks.length ≤ c1) (hr0 : Kd.C (Kd.int .i64) w A0 more.length more) (hc0 : more.length ≤ c0) (hr2 : Kd.C (Kd.int .i64) w A2 sizes.length sizes) (hc2 : sizes.length ≤ c2) (hr3 : Kd.C (Kd.int .i64) w A3 gets.length gets) (hc3 : gets.length ≤ c3) (hg : ∀ x ∈ gets, I64 x) :
    Calls Try.prog 5 #[.int .i64 room, .int .i64 other, .slice A1 picks.length c1, .slice A0 more.length c0, .slice A2 sizes.length c2, .slice A3 gets.length c3] w fun e w' => e = .returned (.bool true) ∧ Below w.heap.size w w' := by
  have hu40 := Try.underlying40
  have hu43 := Try.underlying43
  have HB := Aside0.mk (Below.refl w.heap.size w)
  have HR1 := Aside0.mk hr1
  have HR0 := Aside0.mk hr0
  have HR2 := Aside0.mk hr2
  have HR3 := Aside0.mk hr3
  have HC1 := Aside0.mk hc1
  have HC0 := Aside0.mk hc0
  have HC2 := Aside0.mk hc2
  have HC3 := Aside0.mk hc3
  have HRM := Aside0.mk hroom
  have HRO := Aside0.mk hother
  have HG := Aside0.mk hg
  clear hr1 hr2 hr3 hr0 hc0 hc1 hc2 hc3 hroom hother hg
  go_enter Try.func5, Try.ntmps5
  go_wp2_with (go_at_call 8; (with_reducible refine (alive.calls _).mono ?_); rintro e w1 ⟨rfl, hb⟩; replace HB := Aside0.mk (below_step HB.out hb); clear hb)
  refine (great_calls A2 c2 sizes A1 c1 picks A3 c3 gets _ (Kd.C_below HR2.out HB.out) HC2.out (Kd.C_below HR1.out HB.out) HC1.out (Kd.C_below HR3.out HB.out) HC3.out).mono ?_
  rintro e w2 ⟨r, rfl, ⟨m, rfl⟩, hgr⟩
  replace HB := Aside0.mk (pw_below_drewN HB.out m)
  cases r with
  | true =>
    go_wp2
    go_ret
    exact ⟨rfl, HB.out⟩
  | false =>
  have HGR := Aside0.mk (hgr rfl)
  clear hgr
  by_cases hmore : (more.length : Int) > 300
  · have d1 : decide ((more.length : Int) > 300) = true := decide_eq_true hmore
    go_wp2
    go_ret
    exact ⟨rfl, HB.out⟩
  have d1 : decide ((more.length : Int) > 300) = false := decide_eq_false hmore
  have HMO := Aside0.mk hmore
  clear hmore
  go_wp2_with (first
   | ((with_reducible refine gate_dst (N := 37) rfl ?_); refine box_event ?hg (N := 37) ?hd (cs := #[.slice A2 sizes.length c2]) (t := 30) ?hr ?_; (case hd => rfl); (case hg => rfl); (case hr => first | (go_simp; done) | (go_simp; rfl)); intro g37 hg w29 hbox hb; have BK37 := Aside0.mk (hbox); have GE37 := Aside0.mk (bG hg (HB.out)); replace HB := Aside0.mk (below_step (HB.out) hb); have MD : Aside0 (MadeAt w.heap.size sizes w29 g37) := ⟨⟨⟨_, _, BK37.out, HC2.out, (rd_arg HR2.out).int (.of_below HB.out)⟩⟩⟩; have NW := live_new (B := w.heap.size) (sizes := sizes) room A1 picks c1 g37 MD.out (Kd.C_below HR1.out HB.out) HC1.out (by have := HGR.out.2.1; omega) HB.out.size HRM.out; clear hb hbox hg)
   | ((with_reducible refine gate_dst (N := 44) rfl ?_); refine box_event ?hg (N := 44) ?hd (cs := #[.slice A2 sizes.length c2]) (t := 30) ?hr ?_; (case hd => rfl); (case hg => rfl); (case hr => first | (go_simp; done) | (go_simp; rfl)); intro g44 hg w30 hbox hb; have BK44 := Aside0.mk (hbox); have GE44 := Aside0.mk (bG hg (HB.out)); replace LVA := Aside0.mk (LVA.out.below hb); replace HB := Aside0.mk (below_step (HB.out) hb); have MD : Aside0 (MadeAt w.heap.size sizes w30 g44) := ⟨⟨⟨_, _, BK44.out, HC2.out, (rd_arg HR2.out).int (.of_below HB.out)⟩⟩⟩; have NW := live_new (B := w.heap.size) (sizes := sizes) other A0 more c0 g44 MD.out (Kd.C_below HR0.out HB.out) HC0.out (by have := HMO.out; omega) HB.out.size HRO.out; clear hb hbox hg)
   | (go_at_call 11; (with_reducible refine NW.mono ?_); rintro e w11 ⟨ga, sa, rfl, hlv, hb, hmu⟩; have LVA := Aside0.mk hlv; replace HB := Aside0.mk (below_step HB.out hb); clear hlv hb hmu NW MD BK37 GE37)
   | (go_at_call 11; (with_reducible refine NW.mono ?_); rintro e w12 ⟨gb, sb, rfl, hlv, hb, hmu⟩; have LVB := Aside0.mk hlv; have DIS := Aside0.mk (dis_new LVA.out.at_ hmu); replace LVA := Aside0.mk (LVA.out.below hb); replace HB := Aside0.mk (below_step HB.out hb); clear hlv hb hmu NW MD BK44 GE44))
  have hgl : (gets.length : Int) ≤ 200 := by have := HGR.out.2.2.1; omega
  have HMM := HMO
  clear d1
  go_loopg [15] gets.length (fun kq v15 w' => ∃ j : Nat, v15 = .int .i64 j ∧ ∃ W, W = w' ∧ Aside0 (j + kq = gets.length) ∧ Aside0 (∃ sa sb, Live w.heap.size sizes W ga (runP sizes (startP room picks) gets j) sa ∧ Live w.heap.size sizes W gb (runP sizes (startP other more) gets j) sb ∧ ∀ k, Mut sa k → ¬ Mut sb k) ∧ Aside0 (Below w.heap.size w W))
  case atStart => exact ⟨0, rfl, _, rfl, ⟨by omega⟩, ⟨sa, sb, LVA.out, LVB.out, DIS.out⟩, HB⟩
  case round =>
    clear LVA LVB DIS HB sa sb
    obtain ⟨j, rfl, W, rfl, HJ1, HLV, HB⟩ := hrel
    have hj := HJ1.out
    obtain ⟨sa, sb, hla, hlb, hds⟩ := HLV.out
    have LVA := Aside0.mk hla
    have LVB := Aside0.mk hlb
    have DIS := Aside0.mk hds
    clear hla hlb hds HLV
    by_cases hlt : j < gets.length
    · have c1 : decide ((j : Int) < (gets.length : Int)) = true := decide_eq_true (by omega)
      have i0 : 0 ≤ (j : Int) := by omega
      have i1 : (j : Int) < (gets.length : Int) := by omega
      obtain ⟨ad, rfl, hcell⟩ := Kd.at_int HR3.out (j : Int) i0 i1
      have HX : Aside0 (∀ W', Below w.heap.size w W' → W'.cell? (ad.add j) = some (.int .i64 (rd gets (j : Int)))) := ⟨fun W' hb => (cell_grow_below hb HR3.out hlt).trans hcell⟩
      have hgs := HGR.out.2.2.2
      have HS := Aside0.mk hgs
      clear hgs
      have hxm : rd gets (j : Int) ∈ gets := by
        show gets.getD (j : Int).toNat 0 ∈ gets
        rw [Int.toNat_natCast, List.getD_eq_getElem?_getD, List.getElem?_eq_getElem hlt]
        exact List.getElem_mem _
      have HXI := Aside0.mk (HG.out _ hxm)
      have hrna : runP sizes (startP room picks) gets (j + 1) = getP sizes (runP sizes (startP room picks) gets j) (rd gets (j : Int)) := by rw [runP]; rfl
      have hrnb : runP sizes (startP other more) gets (j + 1) = getP sizes (runP sizes (startP other more) gets j) (rd gets (j : Int)) := by rw [runP]; rfl
      have hnwa : (runP sizes (startP room picks) gets j).now = j := by rw [run_now]; show (0 : Int) + j = j; omega
      have hnwb : (runP sizes (startP other more) gets j).now = j := by rw [run_now]; show (0 : Int) + j = j; omega
      have HRA := Aside0.mk hrna
      have HRB := Aside0.mk hrnb
      clear hcell hxm hrna hrnb
      generalize rd gets (j : Int) = x at *
      generalize runP sizes (startP room picks) gets j = p at *
      generalize runP sizes (startP other more) gets j = q at *
      have HNA : Aside0 (p.now ≤ 999990) := ⟨by omega⟩
      have HNB : Aside0 (q.now ≤ 999990) := ⟨by omega⟩
      have x0 := HX.out W HB.out
      clear hnwa hnwb
      cases gk with
      | zero => omega
      | succ k1 =>
      by_cases hbd : badI sizes x = true
      · have HBD := Aside0.mk hbd
        clear hbd
        go_wp2_with (first
           | (go_at_call 13; (with_reducible refine (LVA.out.get_bad HS.out HXI.out HBD.out (by have := HNA.out; omega)).mono ?_); rintro e w13 ⟨sa', rfl, hgt⟩; have LVBo := LVB.out; replace LVB := Aside0.mk (LVB.out.other LVA.out.at_ hgt.left DIS.out); replace DIS := Aside0.mk (dis_a (sb := sb) LVBo.at_ hgt.left DIS.out); replace HB := Aside0.mk (HB.out.trans hgt.left.frame.below); replace LVA := Aside0.mk hgt.live; clear LVBo; clear hgt)
           | ((with_reducible refine gate_dst (N := 16) rfl ?_); refine box_event ?hg (N := 16) ?hd (cs := #[.slice none 0 0, .slice none 0 0, .slice none 0 0]) (t := 40) ?hr ?_; (case hd => rfl); (case hg => rfl); (case hr => first | (go_simp; done) | (go_simp; rfl)); intro g16 hg w14 hbox hb; have BK16 := Aside0.mk (hbox); have GE16 := Aside0.mk (bG hg (HB.out)); replace LVA := Aside0.mk (LVA.out.below hb); replace LVB := Aside0.mk (LVB.out.below hb); replace HB := Aside0.mk (below_step (HB.out) hb); clear hb hbox hg)
           | ((with_reducible refine gate_dst (N := 17) rfl ?_); refine box_event ?hg (N := 17) ?hd (cs := #[.slice none 0 0, .slice none 0 0]) (t := 43) ?hr ?_; (case hd => rfl); (case hg => rfl); (case hr => first | (go_simp; done) | (go_simp; rfl)); intro g17 hg w15 hbox hb; have BK17 := Aside0.mk (hbox); have GE17 := Aside0.mk (bG hg (HB.out)); have NE16_17 := cN hg BK16; replace BK16 := cB hb BK16; replace LVA := Aside0.mk (LVA.out.below hb); replace LVB := Aside0.mk (LVB.out.below hb); replace HB := Aside0.mk (below_step (HB.out) hb); clear hb hbox hg)
           | ((with_reducible refine gate_store2 (t := 40) (x := .tmp 16) (y := .tmp 66) rfl ?_); refine ev_row (B := w.heap.size) (w0 := w) rfl 40 (.tmp 16) (.tmp 66) rfl rfl g16 #[.slice none 0 0, .slice none 0 0, .slice none 0 0] ?hx ?hy 40 _ BK16.out (by kernel_rfl) rfl (by simp [Value.oneCell', Msh.mesh, Msh.tree]) HB.out GE16.out ?_; (case hx => first | (go_simp; done) | rfl); (case hy => first | (go_simp; done) | rfl | (go_simp; rfl)); intro w16 hbox hb hk; have hsz_ := size_of_but BK16.out hbox hk; replace LVA := Aside0.mk (LVA.out.but BK16.out (.inl rfl) GE16.out hsz_ hk); replace LVB := Aside0.mk (LVB.out.but BK16.out (.inl rfl) GE16.out hsz_ hk); replace BK16 := Aside0.mk hbox; replace HB := Aside0.mk hb; replace BK17 := Aside0.mk ((hk _ (Ne.symm NE16_17.out)).trans BK17.out); clear hbox hb hk hsz_)
           | ((with_reducible refine gate_store2 (t := 43) (x := .tmp 17) (y := .tmp 67) rfl ?_); refine ev_row (B := w.heap.size) (w0 := w) rfl 43 (.tmp 17) (.tmp 67) rfl rfl g17 #[.slice none 0 0, .slice none 0 0] ?hx ?hy 43 _ BK17.out (by kernel_rfl) rfl (by simp [Value.oneCell', Msh.mesh, Msh.tree]) HB.out GE17.out ?_; (case hx => first | (go_simp; done) | rfl); (case hy => first | (go_simp; done) | rfl | (go_simp; rfl)); intro w17 hbox hb hk; have hsz_ := size_of_but BK17.out hbox hk; replace LVA := Aside0.mk (LVA.out.but BK17.out (.inr (.inl rfl)) GE17.out hsz_ hk); replace LVB := Aside0.mk (LVB.out.but BK17.out (.inr (.inl rfl)) GE17.out hsz_ hk); replace BK17 := Aside0.mk hbox; replace HB := Aside0.mk hb; replace BK16 := Aside0.mk ((hk _ NE16_17.out).trans BK16.out); have x1 := HX.out w17 HB.out; clear hbox hb hk hsz_)
           | (go_at_call 13; (with_reducible refine (LVB.out.get_bad HS.out HXI.out HBD.out (by have := HNB.out; omega)).mono ?_); rintro e w18 ⟨sb', rfl, hgt⟩; replace BK16 := Aside0.mk (kept_blk hgt.left BK16.out (by decide) LVB.out.at_); replace BK17 := Aside0.mk (kept_blk hgt.left BK17.out (by decide) LVB.out.at_); have LVAo := LVA.out; replace LVA := Aside0.mk (LVA.out.other' LVB.out.at_ hgt.left DIS.out); replace DIS := Aside0.mk (dis_b LVAo.at_ hgt.left DIS.out); replace HB := Aside0.mk (HB.out.trans hgt.left.frame.below); replace LVB := Aside0.mk hgt.live; clear LVAo; clear hgt)
           | ((with_reducible refine gate_dst (N := 19) rfl ?_); refine box_event ?hg (N := 19) ?hd (cs := #[.slice none 0 0, .slice none 0 0, .slice none 0 0]) (t := 40) ?hr ?_; (case hd => rfl); (case hg => rfl); (case hr => first | (go_simp; done) | (go_simp; rfl)); intro g19 hg w18a hbox hb; have BK19 := Aside0.mk (hbox); have GE19 := Aside0.mk (bG hg (HB.out)); have NE16_19 := cN hg BK16; have NE17_19 := cN hg BK17; replace BK16 := cB hb BK16; replace BK17 := cB hb BK17; replace LVA := Aside0.mk (LVA.out.below hb); replace LVB := Aside0.mk (LVB.out.below hb); replace HB := Aside0.mk (below_step (HB.out) hb); clear hb hbox hg)
           | ((with_reducible refine gate_dst (N := 20) rfl ?_); refine box_event ?hg (N := 20) ?hd (cs := #[.slice none 0 0, .slice none 0 0]) (t := 43) ?hr ?_; (case hd => rfl); (case hg => rfl); (case hr => first | (go_simp; done) | (go_simp; rfl)); intro g20 hg w18b hbox hb; have BK20 := Aside0.mk (hbox); have GE20 := Aside0.mk (bG hg (HB.out)); have NE16_20 := cN hg BK16; have NE17_20 := cN hg BK17; have NE19_20 := cN hg BK19; replace BK16 := cB hb BK16; replace BK17 := cB hb BK17; replace BK19 := cB hb BK19; replace LVA := Aside0.mk (LVA.out.below hb); replace LVB := Aside0.mk (LVB.out.below hb); replace HB := Aside0.mk (below_step (HB.out) hb); clear hb hbox hg)
           | ((with_reducible refine gate_store2 (t := 40) (x := .tmp 19) (y := .tmp 76) rfl ?_); refine ev_row (B := w.heap.size) (w0 := w) rfl 40 (.tmp 19) (.tmp 76) rfl rfl g19 #[.slice none 0 0, .slice none 0 0, .slice none 0 0] ?hx ?hy 40 _ BK19.out (by kernel_rfl) rfl (by simp [Value.oneCell', Msh.mesh, Msh.tree]) HB.out GE19.out ?_; (case hx => first | (go_simp; done) | rfl); (case hy => first | (go_simp; done) | rfl | (go_simp; rfl)); intro w19 hbox hb hk; have hsz_ := size_of_but BK19.out hbox hk; replace LVA := Aside0.mk (LVA.out.but BK19.out (.inl rfl) GE19.out hsz_ hk); replace LVB := Aside0.mk (LVB.out.but BK19.out (.inl rfl) GE19.out hsz_ hk); replace BK19 := Aside0.mk hbox; replace HB := Aside0.mk hb; replace BK16 := Aside0.mk ((hk _ NE16_19.out).trans BK16.out); replace BK17 := Aside0.mk ((hk _ NE17_19.out).trans BK17.out); replace BK20 := Aside0.mk ((hk _ (Ne.symm NE19_20.out)).trans BK20.out); clear hbox hb hk hsz_)
           | ((with_reducible refine gate_store2 (t := 43) (x := .tmp 20) (y := .tmp 77) rfl ?_); refine ev_row (B := w.heap.size) (w0 := w) rfl 43 (.tmp 20) (.tmp 77) rfl rfl g20 #[.slice none 0 0, .slice none 0 0] ?hx ?hy 43 _ BK20.out (by kernel_rfl) rfl (by simp [Value.oneCell', Msh.mesh, Msh.tree]) HB.out GE20.out ?_; (case hx => first | (go_simp; done) | rfl); (case hy => first | (go_simp; done) | rfl | (go_simp; rfl)); intro w20 hbox hb hk; have hsz_ := size_of_but BK20.out hbox hk; replace LVA := Aside0.mk (LVA.out.but BK20.out (.inr (.inl rfl)) GE20.out hsz_ hk); replace LVB := Aside0.mk (LVB.out.but BK20.out (.inr (.inl rfl)) GE20.out hsz_ hk); replace BK20 := Aside0.mk hbox; replace HB := Aside0.mk hb; replace BK16 := Aside0.mk ((hk _ NE16_20.out).trans BK16.out); replace BK17 := Aside0.mk ((hk _ NE17_20.out).trans BK17.out); replace BK19 := Aside0.mk ((hk _ NE19_20.out).trans BK19.out); have f0 : w20.cell? ⟨g16, 0, none⟩ = some (.slice none 0 0) := (blk_cell BK16.out 0).trans rfl; have f1 : w20.cell? ⟨g16, 1, none⟩ = some (.slice none 0 0) := (blk_cell BK16.out 1).trans rfl; have f2 : w20.cell? ⟨g16, 2, none⟩ = some (.slice none 0 0) := (blk_cell BK16.out 2).trans rfl; have h0 : w20.cell? ⟨g19, 0, none⟩ = some (.slice none 0 0) := (blk_cell BK19.out 0).trans rfl; have h1 : w20.cell? ⟨g19, 1, none⟩ = some (.slice none 0 0) := (blk_cell BK19.out 1).trans rfl; have h2 : w20.cell? ⟨g19, 2, none⟩ = some (.slice none 0 0) := (blk_cell BK19.out 2).trans rfl; clear hbox hb hk hsz_)
           | (go_at_call 21; (with_reducible refine (same_none _).mono ?_); rintro e w21 ⟨rfl, hb⟩; replace BK17 := cB hb BK17; replace BK20 := cB hb BK20; replace LVA := Aside0.mk (LVA.out.below hb); replace LVB := Aside0.mk (LVB.out.below hb); replace HB := Aside0.mk (below_step (HB.out) hb); have t1 : w21.cell? ⟨g17, 1, none⟩ = some (.slice none 0 0) := (blk_cell BK17.out 1).trans rfl; have t2 : w21.cell? ⟨g20, 1, none⟩ = some (.slice none 0 0) := (blk_cell BK20.out 1).trans rfl; clear hb f0 f1 f2 h0 h1 h2)
           | (go_at_call 16; (with_reducible refine (same_items _).mono ?_); rintro e w22 ⟨rfl, hb⟩; replace LVA := Aside0.mk (LVA.out.below hb); replace LVB := Aside0.mk (LVB.out.below hb); replace HB := Aside0.mk (below_step (HB.out) hb); clear hb t1 t2))
        go_roundg k1
        case measure => omega
        case rel => exact ⟨j + 1, by simp, _, rfl, ⟨by omega⟩, ⟨by rw [HRA.out, HRB.out]; exact ⟨_, _, LVA.out, LVB.out, DIS.out⟩⟩, ⟨HB.out⟩⟩
      · have hbd' : badI sizes x = false := by simpa using hbd
        have HBD := Aside0.mk hbd'
        have hsz : sizeI sizes x ≤ 1000 := by
          unfold sizeI
          by_cases q : x.toNat < sizes.length
          · have := HS.out _ (List.getElem_mem q)
            rw [List.getD_eq_getElem?_getD, List.getElem?_eq_getElem q]
            show (sizes[x.toNat]).toNat ≤ 1000
            omega
          · rw [List.getD_eq_getElem?_getD, List.getElem?_eq_none (by omega)]
            decide
        have HSZ := Aside0.mk hsz
        clear hbd hbd' hsz
        go_wp2_with (first
           | (go_at_call 13; (with_reducible refine (LVA.out.get_ok HS.out HXI.out HBD.out (by have := HNA.out; omega)).mono ?_); rintro e w13 ⟨m1, sa', hmi1, hmn1, rfl, hms, hgt⟩; have LVBo := LVB.out; replace LVB := Aside0.mk (LVB.out.other LVA.out.at_ hgt.left DIS.out); replace DIS := Aside0.mk (dis_a (sb := sb) LVBo.at_ hgt.left DIS.out); replace HB := Aside0.mk (HB.out.trans hgt.left.frame.below); replace LVA := Aside0.mk hgt.live; have M1 := Aside0.mk hms; clear hms; have HI1 := Aside0.mk hmi1; have HN1 := Aside0.mk hmn1; clear hmi1 hmn1; clear LVBo; clear hgt)
           | ((with_reducible refine gate_dst (N := 16) rfl ?_); refine box_event ?hg (N := 16) ?hd (cs := #[.slice none 0 0, .slice none 0 0, .slice none 0 0]) (t := 40) ?hr ?_; (case hd => rfl); (case hg => rfl); (case hr => first | (go_simp; done) | (go_simp; rfl)); intro g16 hg w14 hbox hb; have BK16 := Aside0.mk (hbox); have GE16 := Aside0.mk (bG hg (HB.out)); replace LVA := Aside0.mk (LVA.out.below hb); replace LVB := Aside0.mk (LVB.out.below hb); replace M1 := Aside0.mk (M1.out.move (.of_below hb)); replace HB := Aside0.mk (below_step (HB.out) hb); clear hb hbox hg)
           | ((with_reducible refine gate_dst (N := 17) rfl ?_); refine box_event ?hg (N := 17) ?hd (cs := #[.slice none 0 0, .slice none 0 0]) (t := 43) ?hr ?_; (case hd => rfl); (case hg => rfl); (case hr => first | (go_simp; done) | (go_simp; rfl)); intro g17 hg w15 hbox hb; have BK17 := Aside0.mk (hbox); have GE17 := Aside0.mk (bG hg (HB.out)); have NE16_17 := cN hg BK16; replace BK16 := cB hb BK16; replace LVA := Aside0.mk (LVA.out.below hb); replace LVB := Aside0.mk (LVB.out.below hb); replace M1 := Aside0.mk (M1.out.move (.of_below hb)); replace HB := Aside0.mk (below_step (HB.out) hb); clear hb hbox hg)
           | ((with_reducible refine gate_store2 (t := 40) (x := .tmp 16) (y := .tmp 66) rfl ?_); refine ev_row (B := w.heap.size) (w0 := w) rfl 40 (.tmp 16) (.tmp 66) rfl rfl g16 m1.mesh ?hx ?hy 40 _ BK16.out (by kernel_rfl) rfl (by simp [Value.oneCell', Msh.mesh, Msh.tree]) HB.out GE16.out ?_; (case hx => first | (go_simp; done) | rfl); (case hy => first | (go_simp; done) | rfl | (go_simp; rfl)); intro w16 hbox hb hk; have hsz_ := size_of_but BK16.out hbox hk; replace LVA := Aside0.mk (LVA.out.but BK16.out (.inl rfl) GE16.out hsz_ hk); replace LVB := Aside0.mk (LVB.out.but BK16.out (.inl rfl) GE16.out hsz_ hk); replace M1 := Aside0.mk (M1.out.move (.of_but BK16.out rfl GE16.out hsz_ hk)); replace BK16 := Aside0.mk hbox; replace HB := Aside0.mk hb; replace BK17 := Aside0.mk ((hk _ (Ne.symm NE16_17.out)).trans BK17.out); clear hbox hb hk hsz_)
           | ((with_reducible refine gate_store2 (t := 43) (x := .tmp 17) (y := .tmp 67) rfl ?_); refine ev_row (B := w.heap.size) (w0 := w) rfl 43 (.tmp 17) (.tmp 67) rfl rfl g17 m1.tree ?hx ?hy 43 _ BK17.out (by kernel_rfl) rfl (by simp [Value.oneCell', Msh.mesh, Msh.tree]) HB.out GE17.out ?_; (case hx => first | (go_simp; done) | rfl); (case hy => first | (go_simp; done) | rfl | (go_simp; rfl)); intro w17 hbox hb hk; have hsz_ := size_of_but BK17.out hbox hk; replace LVA := Aside0.mk (LVA.out.but BK17.out (.inr (.inl rfl)) GE17.out hsz_ hk); replace LVB := Aside0.mk (LVB.out.but BK17.out (.inr (.inl rfl)) GE17.out hsz_ hk); replace M1 := Aside0.mk (M1.out.move (.of_but BK17.out rfl GE17.out hsz_ hk)); replace BK17 := Aside0.mk hbox; replace HB := Aside0.mk hb; replace BK16 := Aside0.mk ((hk _ NE16_17.out).trans BK16.out); have x1 := HX.out w17 HB.out; clear hbox hb hk hsz_)
           | (go_at_call 13; (with_reducible refine (LVB.out.get_ok HS.out HXI.out HBD.out (by have := HNB.out; omega)).mono ?_); rintro e w18 ⟨m2, sb', hmi2, hmn2, rfl, hms, hgt⟩; replace BK16 := Aside0.mk (kept_blk hgt.left BK16.out (by decide) LVB.out.at_); replace BK17 := Aside0.mk (kept_blk hgt.left BK17.out (by decide) LVB.out.at_); replace M1 := Aside0.mk (M1.out.move (Left.still LVB.out.at_ hgt.left)); have LVAo := LVA.out; replace LVA := Aside0.mk (LVA.out.other' LVB.out.at_ hgt.left DIS.out); replace DIS := Aside0.mk (dis_b LVAo.at_ hgt.left DIS.out); replace HB := Aside0.mk (HB.out.trans hgt.left.frame.below); replace LVB := Aside0.mk hgt.live; have M2 := Aside0.mk hms; clear hms; have HI2 := Aside0.mk hmi2; have HN2 := Aside0.mk hmn2; clear hmi2 hmn2; clear LVAo; clear hgt)
           | ((with_reducible refine gate_dst (N := 19) rfl ?_); refine box_event ?hg (N := 19) ?hd (cs := #[.slice none 0 0, .slice none 0 0, .slice none 0 0]) (t := 40) ?hr ?_; (case hd => rfl); (case hg => rfl); (case hr => first | (go_simp; done) | (go_simp; rfl)); intro g19 hg w18a hbox hb; have BK19 := Aside0.mk (hbox); have GE19 := Aside0.mk (bG hg (HB.out)); have NE16_19 := cN hg BK16; have NE17_19 := cN hg BK17; replace BK16 := cB hb BK16; replace BK17 := cB hb BK17; replace LVA := Aside0.mk (LVA.out.below hb); replace LVB := Aside0.mk (LVB.out.below hb); replace M1 := Aside0.mk (M1.out.move (.of_below hb)); replace M2 := Aside0.mk (M2.out.move (.of_below hb)); replace HB := Aside0.mk (below_step (HB.out) hb); clear hb hbox hg)
           | ((with_reducible refine gate_dst (N := 20) rfl ?_); refine box_event ?hg (N := 20) ?hd (cs := #[.slice none 0 0, .slice none 0 0]) (t := 43) ?hr ?_; (case hd => rfl); (case hg => rfl); (case hr => first | (go_simp; done) | (go_simp; rfl)); intro g20 hg w18b hbox hb; have BK20 := Aside0.mk (hbox); have GE20 := Aside0.mk (bG hg (HB.out)); have NE16_20 := cN hg BK16; have NE17_20 := cN hg BK17; have NE19_20 := cN hg BK19; replace BK16 := cB hb BK16; replace BK17 := cB hb BK17; replace BK19 := cB hb BK19; replace LVA := Aside0.mk (LVA.out.below hb); replace LVB := Aside0.mk (LVB.out.below hb); replace M1 := Aside0.mk (M1.out.move (.of_below hb)); replace M2 := Aside0.mk (M2.out.move (.of_below hb)); replace HB := Aside0.mk (below_step (HB.out) hb); clear hb hbox hg)
           | ((with_reducible refine gate_store2 (t := 40) (x := .tmp 19) (y := .tmp 76) rfl ?_); refine ev_row (B := w.heap.size) (w0 := w) rfl 40 (.tmp 19) (.tmp 76) rfl rfl g19 m2.mesh ?hx ?hy 40 _ BK19.out (by kernel_rfl) rfl (by simp [Value.oneCell', Msh.mesh, Msh.tree]) HB.out GE19.out ?_; (case hx => first | (go_simp; done) | rfl); (case hy => first | (go_simp; done) | rfl | (go_simp; rfl)); intro w19 hbox hb hk; have hsz_ := size_of_but BK19.out hbox hk; replace LVA := Aside0.mk (LVA.out.but BK19.out (.inl rfl) GE19.out hsz_ hk); replace LVB := Aside0.mk (LVB.out.but BK19.out (.inl rfl) GE19.out hsz_ hk); replace M1 := Aside0.mk (M1.out.move (.of_but BK19.out rfl GE19.out hsz_ hk)); replace M2 := Aside0.mk (M2.out.move (.of_but BK19.out rfl GE19.out hsz_ hk)); replace BK19 := Aside0.mk hbox; replace HB := Aside0.mk hb; replace BK16 := Aside0.mk ((hk _ NE16_19.out).trans BK16.out); replace BK17 := Aside0.mk ((hk _ NE17_19.out).trans BK17.out); replace BK20 := Aside0.mk ((hk _ (Ne.symm NE19_20.out)).trans BK20.out); clear hbox hb hk hsz_)
           | ((with_reducible refine gate_store2 (t := 43) (x := .tmp 20) (y := .tmp 77) rfl ?_); refine ev_row (B := w.heap.size) (w0 := w) rfl 43 (.tmp 20) (.tmp 77) rfl rfl g20 m2.tree ?hx ?hy 43 _ BK20.out (by kernel_rfl) rfl (by simp [Value.oneCell', Msh.mesh, Msh.tree]) HB.out GE20.out ?_; (case hx => first | (go_simp; done) | rfl); (case hy => first | (go_simp; done) | rfl | (go_simp; rfl)); intro w20 hbox hb hk; have hsz_ := size_of_but BK20.out hbox hk; replace LVA := Aside0.mk (LVA.out.but BK20.out (.inr (.inl rfl)) GE20.out hsz_ hk); replace LVB := Aside0.mk (LVB.out.but BK20.out (.inr (.inl rfl)) GE20.out hsz_ hk); replace M1 := Aside0.mk (M1.out.move (.of_but BK20.out rfl GE20.out hsz_ hk)); replace M2 := Aside0.mk (M2.out.move (.of_but BK20.out rfl GE20.out hsz_ hk)); replace BK20 := Aside0.mk hbox; replace HB := Aside0.mk hb; replace BK16 := Aside0.mk ((hk _ NE16_20.out).trans BK16.out); replace BK17 := Aside0.mk ((hk _ NE17_20.out).trans BK17.out); replace BK19 := Aside0.mk ((hk _ NE19_20.out).trans BK19.out); have f0 : w20.cell? ⟨g16, 0, none⟩ = some (.slice m1.vA 1 m1.vc) := (blk_cell BK16.out 0).trans rfl; have f1 : w20.cell? ⟨g16, 1, none⟩ = some (.slice none 0 0) := (blk_cell BK16.out 1).trans rfl; have f2 : w20.cell? ⟨g16, 2, none⟩ = some (.slice m1.tA m1.n m1.tc) := (blk_cell BK16.out 2).trans rfl; have h0 : w20.cell? ⟨g19, 0, none⟩ = some (.slice m2.vA 1 m2.vc) := (blk_cell BK19.out 0).trans rfl; have h1 : w20.cell? ⟨g19, 1, none⟩ = some (.slice none 0 0) := (blk_cell BK19.out 1).trans rfl; have h2 : w20.cell? ⟨g19, 2, none⟩ = some (.slice m2.tA m2.n m2.tc) := (blk_cell BK19.out 2).trans rfl; clear hbox hb hk hsz_)
           | (go_at_call 21; (with_reducible refine (same_mesh M1.out M2.out (HI2.out.trans HI1.out.symm) (HN2.out.trans HN1.out.symm) (by rw [HN1.out]; have := HSZ.out; omega)).mono ?_); rintro e w21 ⟨rfl, hb⟩; replace BK17 := cB hb BK17; replace BK20 := cB hb BK20; replace LVA := Aside0.mk (LVA.out.below hb); replace LVB := Aside0.mk (LVB.out.below hb); replace M1 := Aside0.mk (M1.out.move (.of_below hb)); replace M2 := Aside0.mk (M2.out.move (.of_below hb)); replace HB := Aside0.mk (below_step (HB.out) hb); have t1 : w21.cell? ⟨g17, 1, none⟩ = some (.slice m1.iA 1 m1.ic) := (blk_cell BK17.out 1).trans rfl; have t2 : w21.cell? ⟨g20, 1, none⟩ = some (.slice m2.iA 1 m2.ic) := (blk_cell BK20.out 1).trans rfl; clear hb f0 f1 f2 h0 h1 h2)
           | (go_at_call 16; (with_reducible refine (same_tree M1.out M2.out (HI2.out.trans HI1.out.symm)).mono ?_); rintro e w22 ⟨rfl, hb⟩; replace LVA := Aside0.mk (LVA.out.below hb); replace LVB := Aside0.mk (LVB.out.below hb); replace HB := Aside0.mk (below_step (HB.out) hb); clear hb t1 t2))
        go_roundg k1
        case measure => omega
        case rel => exact ⟨j + 1, by simp, _, rfl, ⟨by omega⟩, ⟨by rw [HRA.out, HRB.out]; exact ⟨_, _, LVA.out, LVB.out, DIS.out⟩⟩, ⟨HB.out⟩⟩
    · have c1 : decide ((j : Int) < (gets.length : Int)) = false := decide_eq_false (by omega)
      go_wp2
      go_ret
      exact ⟨rfl, HB.out⟩
theorem CacheSame_walk (a0 : Int) (a1 : Int) (a2 : Option Addr) (len2 cap2 : Nat) (z2 : List Int) (a3 : Option Addr) (len3 cap3 : Nat) (z3 : List Int) (a4 : Option Addr) (len4 cap4 : Nat) (z4 : List Int) (a5 : Option Addr) (len5 cap5 : Nat) (z5 : List Int) (w : World) (w0 : (Lit.int .i64 a0).wf = true) (w1 : (Lit.int .i64 a1).wf = true) (w2 : (a2 = none ∧ len2 = 0 ∧ cap2 = 0 ∧ z2 = []) ∨ ∃ x, a2 = some x ∧ len2 ≤ cap2 ∧ cap2 ≤ maxLen ∧ z2.length = cap2 ∧ (∀ i, i < z2.length → w.cell? (x.add i) = some (.int .i64 (z2.getD i 0))) ∧ ∀ n ∈ z2, (Lit.int .i64 n).wf = true) (y2 : len2 * 8 ≤ 140737488351232) (w3 : (a3 = none ∧ len3 = 0 ∧ cap3 = 0 ∧ z3 = []) ∨ ∃ x, a3 = some x ∧ len3 ≤ cap3 ∧ cap3 ≤ maxLen ∧ z3.length = cap3 ∧ (∀ i, i < z3.length → w.cell? (x.add i) = some (.int .i64 (z3.getD i 0))) ∧ ∀ n ∈ z3, (Lit.int .i64 n).wf = true) (y3 : len3 * 8 ≤ 140737488351232) (w4 : (a4 = none ∧ len4 = 0 ∧ cap4 = 0 ∧ z4 = []) ∨ ∃ x, a4 = some x ∧ len4 ≤ cap4 ∧ cap4 ≤ maxLen ∧ z4.length = cap4 ∧ (∀ i, i < z4.length → w.cell? (x.add i) = some (.int .i64 (z4.getD i 0))) ∧ ∀ n ∈ z4, (Lit.int .i64 n).wf = true) (y4 : len4 * 8 ≤ 140737488351232) (w5 : (a5 = none ∧ len5 = 0 ∧ cap5 = 0 ∧ z5 = []) ∨ ∃ x, a5 = some x ∧ len5 ≤ cap5 ∧ cap5 ≤ maxLen ∧ z5.length = cap5 ∧ (∀ i, i < z5.length → w.cell? (x.add i) = some (.int .i64 (z5.getD i 0))) ∧ ∀ n ∈ z5, (Lit.int .i64 n).wf = true) (y5 : len5 * 8 ≤ 140737488351232) :
    Calls Try.prog 5 #[.int .i64 a0, .int .i64 a1, .slice a2 len2 cap2, .slice a3 len3 cap3, .slice a4 len4 cap4, .slice a5 len5 cap5] w fun e w' => e = .returned (.bool true) ∧ Below w.heap.size w w' := by
  obtain ⟨l2, rfl, hr2, hm2, hw2, hc2⟩ := ReadsInt.ofRowC w2
  obtain ⟨l3, rfl, hr3, hm3, hw3, hc3⟩ := ReadsInt.ofRowC w3
  obtain ⟨l4, rfl, hr4, hm4, hw4, hc4⟩ := ReadsInt.ofRowC w4
  obtain ⟨l5, rfl, hr5, hm5, hw5, hc5⟩ := ReadsInt.ofRowC w5
  exact same.calls a0 a1 _ _ l2 _ _ l3 _ _ l4 _ _ l5 w (i64_wf w0) (i64_wf w1) (Kd.C_of_reads (d := (0 : Int)) (h1 := fun _ => rfl) hr2) hc2 (Kd.C_of_reads (d := (0 : Int)) (h1 := fun _ => rfl) hr3) hc3 (Kd.C_of_reads (d := (0 : Int)) (h1 := fun _ => rfl) hr4) hc4 (Kd.C_of_reads (d := (0 : Int)) (h1 := fun _ => rfl) hr5) hc5 (fun x hx => i64_wf (hw5 x hx))
end Go.Proofs.Ytfhjdhhflpekiaa.G
