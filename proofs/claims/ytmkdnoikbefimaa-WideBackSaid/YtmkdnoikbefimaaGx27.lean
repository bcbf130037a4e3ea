-- Written by a program of this session (wip/gen), out of the translation; Lean checks it.
import Derived.Test.YtmkdnoikbefimaaGx0
import Derived.Test.YtmkdnoikbefimaaGx2
import Derived.Test.YtmkdnoikbefimaaGx4
import Derived.Test.YtmkdnoikbefimaaGx21
import Derived.Test.YtmkdnoikbefimaaGx22
import Derived.Test.YtmkdnoikbefimaaGx23
import Derived.Test.YtmkdnoikbefimaaGx24
import Derived.Test.YtmkdnoikbefimaaGx26
namespace Go.Proofs.Ytmkdnoikbefimaa.G
open Go.RowKit Go.Proofs.YtmkdnoikbefimaaW.PrintWords Go.Proofs.YtmkdnoikbefimaaW.PrintLast Go.Proofs.YtmkdnoikbefimaaW.PrintMore
attribute [local go_sem] max2_int min2_int max_two min_two max_three min_three max_four min_four   -- for this text's walks alone
set_option linter.unusedVariables false
set_option linter.unusedSimpArgs false

attribute [local go_sem high] eqA30
/-! ### relievolaw01_WideBack: function 9 -/
mutual
def relievolaw01_WideBack.j0 : Nat → Int → Int → Bool → Int → Int → Int → Int → Int → Int → Option (Bool)
  | 0, _, _, _, _, _, _, _, _, _ => none
  | k + 1, x2, x3, x34, x203000, x203001, x209000, x209001, x213000, x213001 => if x34 = true then ((wide_Add.f x209000 x209001 x213000 x213001).bind fun bt213 => (if bt213.2.2 = true then (if (!(bt213.1 == x203000) || (!(bt213.2.1 == x203001))) = true then (some false) else (relievolaw01_WideBack.j1 k x2 x3)) else (some false))) else (relievolaw01_WideBack.j1 k x2 x3)
def relievolaw01_WideBack.j1 : Nat → Int → Int → Option (Bool)
  | 0, _, _ => none
  | k + 1, x2, x3 => if x3 < 1 then (some true) else ((wide_Mul.f x2 x3).bind fun bt217 => ((wide_Div.f k bt217.1 bt217.2 x3).bind fun bt219 => ((wide_Int.f bt219.1 bt219.2.1).bind fun bt224 => (if bt219.2.2.2 = true then (if bt224.2 = true then (if bt224.1 = x2 then (some (bt219.2.2.1 == 0)) else (some false)) else (some false)) else (some false)))))
end
def relievolaw01_WideBack.f (k : Nat) (a0_0 : Int) (a0_1 : Int) (a1_0 : Int) (a1_1 : Int) (a2 : Int) (a3 : Int) : Option (Bool) := (relievolaw01_alive.f k).bind fun t204 => (if t204 = true then ((wide_Add.f a0_0 a0_1 a1_0 a1_1).bind fun bt205 => ((wide_Neg.f a1_0 a1_1).bind fun bt209 => (if bt205.2.2 = true then (relievolaw01_WideBack.j0 k a2 a3 bt209.2.2 a0_0 a0_1 bt205.1 bt205.2.1 bt209.1 bt209.2.1) else (relievolaw01_WideBack.j0 k a2 a3 false a0_0 a0_1 bt205.1 bt205.2.1 bt209.1 bt209.2.1)))) else (some false))
set_option maxHeartbeats 8000000 in
set_option maxRecDepth 100000 in
theorem relievolaw01_WideBack.calls (k : Nat) (a0_0 : Int) (a0_1 : Int) (a1_0 : Int) (a1_1 : Int) (a2 : Int) (a3 : Int) (r : Bool) (w : World) (h : relievolaw01_WideBack.f k a0_0 a0_1 a1_0 a1_1 a2 a3 = some r) :
    Calls Try.prog 9 #[.agg #[.int .i64 a0_0, .int .u64 a0_1], .agg #[.int .i64 a1_0, .int .u64 a1_1], .int .i64 a2, .int .i64 a3] w fun e w' => e = .returned (.bool r) ∧ Below w.heap.size w w' := by
 have hu30 := Try.underlying30
 have HB := Aside0.mk (Below.refl w.heap.size w)
 have H : ((relievolaw01_alive.f k).bind fun t204 => (if t204 = true then ((wide_Add.f a0_0 a0_1 a1_0 a1_1).bind fun bt205 => ((wide_Neg.f a1_0 a1_1).bind fun bt209 => (if bt205.2.2 = true then (relievolaw01_WideBack.j0 k a2 a3 bt209.2.2 a0_0 a0_1 bt205.1 bt205.2.1 bt209.1 bt209.2.1) else (relievolaw01_WideBack.j0 k a2 a3 false a0_0 a0_1 bt205.1 bt205.2.1 bt209.1 bt209.2.1)))) else (some false))) = some r := h
 clear h
 replace H := Option.bind_eq_some_iff.mp H
 obtain ⟨t204, A50, H⟩ := H
 replace H : (if t204 = true then ((wide_Add.f a0_0 a0_1 a1_0 a1_1).bind fun bt205 => ((wide_Neg.f a1_0 a1_1).bind fun bt209 => (if bt205.2.2 = true then (relievolaw01_WideBack.j0 k a2 a3 bt209.2.2 a0_0 a0_1 bt205.1 bt205.2.1 bt209.1 bt209.2.1) else (relievolaw01_WideBack.j0 k a2 a3 false a0_0 a0_1 bt205.1 bt205.2.1 bt209.1 bt209.2.1)))) else (some false)) = some r := H
 have A5 := Aside0.mk A50
 clear A50
 by_cases c6 : t204 = true
 ·subst c6
  have H1 : ((wide_Add.f a0_0 a0_1 a1_0 a1_1).bind fun bt205 => ((wide_Neg.f a1_0 a1_1).bind fun bt209 => (if bt205.2.2 = true then (relievolaw01_WideBack.j0 k a2 a3 bt209.2.2 a0_0 a0_1 bt205.1 bt205.2.1 bt209.1 bt209.2.1) else (relievolaw01_WideBack.j0 k a2 a3 false a0_0 a0_1 bt205.1 bt205.2.1 bt209.1 bt209.2.1)))) = some r := by rw [if_pos rfl] at H; exact H
  clear H
  have H := H1
  clear H1
  replace H := Option.bind_eq_some_iff.mp H
  obtain ⟨⟨t205, t206, t207⟩, A70, H⟩ := H
  replace H : ((wide_Neg.f a1_0 a1_1).bind fun bt209 => (if t207 = true then (relievolaw01_WideBack.j0 k a2 a3 bt209.2.2 a0_0 a0_1 t205 t206 bt209.1 bt209.2.1) else (relievolaw01_WideBack.j0 k a2 a3 false a0_0 a0_1 t205 t206 bt209.1 bt209.2.1))) = some r := H
  have A7 := Aside0.mk A70
  clear A70
  replace H := Option.bind_eq_some_iff.mp H
  obtain ⟨⟨t209, t210, t211⟩, A80, H⟩ := H
  replace H : (if t207 = true then (relievolaw01_WideBack.j0 k a2 a3 t211 a0_0 a0_1 t205 t206 t209 t210) else (relievolaw01_WideBack.j0 k a2 a3 false a0_0 a0_1 t205 t206 t209 t210)) = some r := H
  have A8 := Aside0.mk A80
  clear A80
  have HC9 := Aside0.mk H
  clear H
  go_enter Try.func9, Try.ntmps9
  go_upto_region 5 with (first | ((with_reducible refine gate_dst (N := 4) rfl ?_); refine box_event ?hg (N := 4) ?hd (cs := #[.int .i64 a0_0, .int .u64 a0_1]) (t := 30) ?hr ?_; (case hd => rfl); (case hg => rfl); (case hr => first | (go_simp; done) | (go_simp; rfl)); intro gb202 hg w10 hbox hb; have BK202 := Aside0.mk (hbox); have GE202 := Aside0.mk (bG hg (HB.out)); replace HB := Aside0.mk (below_step (HB.out) hb); clear hb hbox hg) | ((with_reducible refine gate_dst (N := 5) rfl ?_); refine box_event ?hg (N := 5) ?hd (cs := #[.int .i64 a1_0, .int .u64 a1_1]) (t := 30) ?hr ?_; (case hd => rfl); (case hg => rfl); (case hr => first | (go_simp; done) | (go_simp; rfl)); intro gb203 hg w11 hbox hb; have BK203 := Aside0.mk (hbox); have GE203 := Aside0.mk (bG hg (HB.out)); have NB202_203 := cN hg BK202; have NB203_202 := cM hg BK202; replace BK202 := cB hb BK202; replace HB := Aside0.mk (below_step (HB.out) hb); clear hb hbox hg) | ((with_reducible refine gate_callee (f := 11) rfl ?_); refine goesL_ (some 18) rfl rfl Try.func11 (by kernel_rfl) rfl #[] rfl (by (try simp only [List.map_toArray, List.map_cons, List.map_nil]); first | done | rfl | (simp only [List.length_drop, List.length_take]; rfl)) ?_; (with_reducible refine (relievolaw01_alive.calls k  true _ A5.out).mono ?_); rintro e w12 ⟨rfl, hb⟩; refine ⟨_, rfl, ?_⟩; replace BK202 := cB hb BK202; replace BK203 := cB hb BK203; replace HB := Aside0.mk (below_step (HB.out) hb); (try clear hb); (try clear hb2); (try clear hk); (try clear hi); obtain ⟨hcz13_0, hcz13_1⟩ := cells2 BK202.out; obtain ⟨hcz14_0, hcz14_1⟩ := cells2 BK203.out) | ((with_reducible refine gate_callee (f := 17) rfl ?_); refine goesL_ (some 23) rfl rfl Try.func17 (by kernel_rfl) rfl #[.agg #[.int .i64 a0_0, .int .u64 a0_1], .agg #[.int .i64 a1_0, .int .u64 a1_1]] rfl (by (try simp only [List.map_toArray, List.map_cons, List.map_nil]); first | done | rfl | (simp only [List.length_drop, List.length_take]; rfl)) ?_; (with_reducible refine (wide_Add.calls a0_0 a0_1 a1_0 a1_1 t205 t206 t207 _ A7.out).mono ?_); rintro e w15 ⟨rfl, hb⟩; refine ⟨_, rfl, ?_⟩; replace BK202 := cB hb BK202; replace BK203 := cB hb BK203; replace HB := Aside0.mk (below_step (HB.out) hb); (try clear hb); (try clear hb2); (try clear hk); (try clear hi)) | ((with_reducible refine gate_dst (N := 9) rfl ?_); refine box_event ?hg (N := 9) ?hd (cs := #[.int .i64 0, .int .u64 0]) (t := 30) ?hr ?_; (case hd => rfl); (case hg => rfl); (case hr => first | (go_simp; done) | (go_simp; rfl)); intro gb208 hg w16 hbox hb; have BK208 := Aside0.mk (hbox); have GE208 := Aside0.mk (bG hg (HB.out)); have NB202_208 := cN hg BK202; have NB208_202 := cM hg BK202; have NB203_208 := cN hg BK203; have NB208_203 := cM hg BK203; replace BK202 := cB hb BK202; replace BK203 := cB hb BK203; replace HB := Aside0.mk (below_step (HB.out) hb); clear hb hbox hg; have hnb17 := NB208_202.out; have hnc17 := NB202_208.out; have hnb18 := NB208_203.out; have hnc18 := NB203_208.out; obtain ⟨hcz19_0, hcz19_1⟩ := cells2 BK208.out; have hfz19_0 := blk_frozen BK208.out 0; have hfz19_1 := blk_frozen BK208.out 1; obtain ⟨hcz20_0, hcz20_1⟩ := cells2 BK203.out) | ((with_reducible refine gate_callee (f := 16) rfl ?_); refine goesL_ (some 28) rfl rfl Try.func16 (by kernel_rfl) rfl #[.agg #[.int .i64 a1_0, .int .u64 a1_1]] rfl (by (try simp only [List.map_toArray, List.map_cons, List.map_nil]); first | done | rfl | (simp only [List.length_drop, List.length_take]; rfl)) ?_; (with_reducible refine (wide_Neg.calls a1_0 a1_1 t209 t210 t211 _ A8.out).mono ?_); rintro e w21 ⟨rfl, hb⟩; refine ⟨_, rfl, ?_⟩; replace BK202 := Aside0.mk (bB hb ((blk_far (blk_far BK202.out NB202_208.out _) NB202_208.out _))); replace BK203 := Aside0.mk (bB hb ((blk_far (blk_far BK203.out NB203_208.out _) NB203_208.out _))); replace BK208 := Aside0.mk (bB hb ((blk_put (cs' := #[.int .i64 t205, .int .u64 t206]) (blk_put BK208.out 0 _ rfl) 1 _ rfl))); replace HB := Aside0.mk (below_step ((below_set (below_set HB.out GE208.out) GE208.out)) hb); (try clear hb); (try clear hb2); (try clear hk); (try clear hi)) | ((with_reducible refine gate_dst (N := 11) rfl ?_); refine box_event ?hg (N := 11) ?hd (cs := #[.int .i64 0, .int .u64 0]) (t := 30) ?hr ?_; (case hd => rfl); (case hg => rfl); (case hr => first | (go_simp; done) | (go_simp; rfl)); intro gb212 hg w22 hbox hb; have BK212 := Aside0.mk (hbox); have GE212 := Aside0.mk (bG hg (HB.out)); have NB202_212 := cN hg BK202; have NB212_202 := cM hg BK202; have NB203_212 := cN hg BK203; have NB212_203 := cM hg BK203; have NB208_212 := cN hg BK208; have NB212_208 := cM hg BK208; replace BK202 := cB hb BK202; replace BK203 := cB hb BK203; replace BK208 := cB hb BK208; replace HB := Aside0.mk (below_step (HB.out) hb); clear hb hbox hg; have hnb23 := NB212_202.out; have hnc23 := NB202_212.out; have hnb24 := NB212_203.out; have hnc24 := NB203_212.out; have hnb25 := NB212_208.out; have hnc25 := NB208_212.out; obtain ⟨hcz26_0, hcz26_1⟩ := cells2 BK212.out; have hfz26_0 := blk_frozen BK212.out 0; have hfz26_1 := blk_frozen BK212.out 1))
  (try simp only [Act.put, List.setIfInBounds_toArray, List.set_cons_zero, List.set_cons_succ])
  go_cut [34] (fun v34 wc => ∃ (kq : Nat) (x34_8 : Bool), v34 = .bool x34_8 ∧ Aside0 (relievolaw01_WideBack.j0 kq a2 a3 x34_8 a0_0 a0_1 t205 t206 t209 t210 = some r) ∧ Aside0 (kq ≤ k) ∧ Aside0 (wc.heap[gb202]? = some (.cells #[.int .i64 a0_0, .int .u64 a0_1] 30 (0, 0))) ∧ Aside0 (wc.heap[gb208]? = some (.cells #[.int .i64 t205, .int .u64 t206] 30 (0, 0))) ∧ Aside0 (wc.heap[gb212]? = some (.cells #[.int .i64 t209, .int .u64 t210] 30 (0, 0))) ∧ Aside0 (Below w.heap.size w wc))
  case first =>
   have H := HC9.out
   clear HC9
   by_cases c27 : t207 = true
   ·subst c27
    have H1 : (relievolaw01_WideBack.j0 k a2 a3 t211 a0_0 a0_1 t205 t206 t209 t210) = some r := by rw [if_pos rfl] at H; exact H
    clear H
    have H := H1
    clear H1
    have H' := Aside0.mk H
    clear H
    go_wp2
    go_meet
    case rel => exact ⟨_, (t211), (by first | rfl | (simp; done) | (simp [*]; done)), H', ⟨by first | omega | exact Nat.le_refl _⟩, ⟨(blk_far (blk_far BK202.out NB202_212.out _) NB202_212.out _)⟩, ⟨(blk_far (blk_far BK208.out NB208_212.out _) NB208_212.out _)⟩, ⟨(blk_put (cs' := #[.int .i64 t209, .int .u64 t210]) (blk_put BK212.out 0 _ rfl) 1 _ rfl)⟩, ⟨(below_set (below_set HB.out GE212.out) GE212.out)⟩⟩
   replace c27 := Bool.eq_false_iff.mpr c27
   subst c27
   have H1 : (relievolaw01_WideBack.j0 k a2 a3 false a0_0 a0_1 t205 t206 t209 t210) = some r := by rw [if_neg (show ¬ (false = true) by decide)] at H; exact H
   clear H
   have H := H1
   clear H1
   have H' := Aside0.mk H
   clear H
   go_wp2
   go_meet
   case rel => exact ⟨_, (false), (by first | rfl | (simp; done) | (simp [*]; done)), H', ⟨by first | omega | exact Nat.le_refl _⟩, ⟨(blk_far (blk_far BK202.out NB202_212.out _) NB202_212.out _)⟩, ⟨(blk_far (blk_far BK208.out NB208_212.out _) NB208_212.out _)⟩, ⟨(blk_put (cs' := #[.int .i64 t209, .int .u64 t210]) (blk_put BK212.out 0 _ rfl) 1 _ rfl)⟩, ⟨(below_set (below_set HB.out GE212.out) GE212.out)⟩⟩
  clear HC9
  try clear c6
  try clear hcz13_0
  try clear hcz13_1
  try clear hcz14_0
  try clear hcz14_1
  try clear hcz19_0
  try clear hcz19_1
  try clear hcz20_0
  try clear hcz20_1
  try clear hcz26_0
  try clear hcz26_1
  try clear hfz19_0
  try clear hfz19_1
  try clear hfz26_0
  try clear hfz26_1
  obtain ⟨kq, x34_8, rfl, HA, HJ8, BK202, BK208, BK212, HB⟩ := hcut
  cases kq with
  | zero => exact absurd HA.out (by simp [relievolaw01_WideBack.j0])
  | succ kj8 =>
   have H := HA.out
   clear HA
   simp only [relievolaw01_WideBack.j0] at H
   have HC28 := Aside0.mk H
   clear H
   go_upto_if 34 with (fail)
   go_cut [] (fun wc => ∃ (kq : Nat), Aside0 (relievolaw01_WideBack.j1 kq a2 a3 = some r) ∧ Aside0 (kq ≤ kj8) ∧ Aside0 (wc.heap[gb202]? = some (.cells #[.int .i64 a0_0, .int .u64 a0_1] 30 (0, 0))) ∧ Aside0 (Below w.heap.size w wc))
   case first =>
    have H := HC28.out
    clear HC28
    by_cases c29 : x34_8 = true
    ·subst c29
     have H1 : ((wide_Add.f t205 t206 t209 t210).bind fun bt213 => (if bt213.2.2 = true then (if (!(bt213.1 == a0_0) || (!(bt213.2.1 == a0_1))) = true then (some false) else (relievolaw01_WideBack.j1 kj8 a2 a3)) else (some false))) = some r := by rw [if_pos rfl] at H; exact H
     clear H
     have H := H1
     clear H1
     replace H := Option.bind_eq_some_iff.mp H
     obtain ⟨⟨t213, t214, t215⟩, A300, H⟩ := H
     replace H : (if t215 = true then (if (!(t213 == a0_0) || (!(t214 == a0_1))) = true then (some false) else (relievolaw01_WideBack.j1 kj8 a2 a3)) else (some false)) = some r := H
     have A30 := Aside0.mk A300
     clear A300
     by_cases c31 : t215 = true
     ·subst c31
      have H1 : (if (!(t213 == a0_0) || (!(t214 == a0_1))) = true then (some false) else (relievolaw01_WideBack.j1 kj8 a2 a3)) = some r := by rw [if_pos rfl] at H; exact H
      clear H
      have H := H1
      clear H1
      by_cases c32 : (!(t213 == a0_0) || (!(t214 == a0_1))) = true
      ·rw [if_pos c32] at H
       have c32b0 : (!(t213 == a0_0) || (!(t214 == a0_1))) = true := c32
       clear c32
       (first | rw [c32b0] | (simp only [i64_w, i32_w]; rw [c32b0]) | skip)
       obtain rfl := Option.some.inj H
       obtain ⟨hcz33_0, hcz33_1⟩ := cells2 BK208.out
       obtain ⟨hcz34_0, hcz34_1⟩ := cells2 BK212.out
       go_wp2_with (first | ((with_reducible refine gate_callee (f := 17) rfl ?_); refine goesL_ (some 38) rfl rfl Try.func17 (by kernel_rfl) rfl #[.agg #[.int .i64 t205, .int .u64 t206], .agg #[.int .i64 t209, .int .u64 t210]] rfl (by (try simp only [List.map_toArray, List.map_cons, List.map_nil]); first | done | rfl | (simp only [List.length_drop, List.length_take]; rfl)) ?_; (with_reducible refine (wide_Add.calls t205 t206 t209 t210 t213 t214 true _ A30.out).mono ?_); rintro e w35 ⟨rfl, hb⟩; refine ⟨_, rfl, ?_⟩; replace BK202 := cB hb BK202; replace BK208 := cB hb BK208; replace BK212 := cB hb BK212; replace HB := Aside0.mk (below_step (HB.out) hb); (try clear hb); (try clear hb2); (try clear hk); (try clear hi)) | ((with_reducible refine gate_dst (N := 13) rfl ?_); refine box_event ?hg (N := 13) ?hd (cs := #[.int .i64 0, .int .u64 0]) (t := 30) ?hr ?_; (case hd => rfl); (case hg => rfl); (case hr => first | (go_simp; done) | (go_simp; rfl)); intro gb216 hg w36 hbox hb; have BK216 := Aside0.mk (hbox); have GE216 := Aside0.mk (bG hg (HB.out)); have NB202_216 := cN hg BK202; have NB216_202 := cM hg BK202; have NB208_216 := cN hg BK208; have NB216_208 := cM hg BK208; have NB212_216 := cN hg BK212; have NB216_212 := cM hg BK212; replace BK202 := cB hb BK202; replace BK208 := cB hb BK208; replace BK212 := cB hb BK212; replace HB := Aside0.mk (below_step (HB.out) hb); clear hb hbox hg; have hnb37 := NB216_202.out; have hnc37 := NB202_216.out; have hnb38 := NB216_208.out; have hnc38 := NB208_216.out; have hnb39 := NB216_212.out; have hnc39 := NB212_216.out; obtain ⟨hcz40_0, hcz40_1⟩ := cells2 BK216.out; have hfz40_0 := blk_frozen BK216.out 0; have hfz40_1 := blk_frozen BK216.out 1; obtain ⟨hcz41_0, hcz41_1⟩ := cells2 BK202.out))
       go_ret
       exact ⟨by first | rfl | (simp [errW_none, errW_some] <;> rfl) | (simp [*, errW_none, errW_some] <;> rfl), (below_set (below_set HB.out GE216.out) GE216.out)⟩
      rw [if_neg c32] at H
      have c32b0 : (!(t213 == a0_0) || (!(t214 == a0_1))) = false := by simpa using c32
      clear c32
      (first | rw [c32b0] | (simp only [i64_w, i32_w]; rw [c32b0]) | skip)
      have H' := Aside0.mk H
      clear H
      obtain ⟨hcz42_0, hcz42_1⟩ := cells2 BK208.out
      obtain ⟨hcz43_0, hcz43_1⟩ := cells2 BK212.out
      go_wp2_with (first | ((with_reducible refine gate_callee (f := 17) rfl ?_); refine goesL_ (some 38) rfl rfl Try.func17 (by kernel_rfl) rfl #[.agg #[.int .i64 t205, .int .u64 t206], .agg #[.int .i64 t209, .int .u64 t210]] rfl (by (try simp only [List.map_toArray, List.map_cons, List.map_nil]); first | done | rfl | (simp only [List.length_drop, List.length_take]; rfl)) ?_; (with_reducible refine (wide_Add.calls t205 t206 t209 t210 t213 t214 true _ A30.out).mono ?_); rintro e w44 ⟨rfl, hb⟩; refine ⟨_, rfl, ?_⟩; replace BK202 := cB hb BK202; replace BK208 := cB hb BK208; replace BK212 := cB hb BK212; replace HB := Aside0.mk (below_step (HB.out) hb); (try clear hb); (try clear hb2); (try clear hk); (try clear hi)) | ((with_reducible refine gate_dst (N := 13) rfl ?_); refine box_event ?hg (N := 13) ?hd (cs := #[.int .i64 0, .int .u64 0]) (t := 30) ?hr ?_; (case hd => rfl); (case hg => rfl); (case hr => first | (go_simp; done) | (go_simp; rfl)); intro gb216 hg w45 hbox hb; have BK216 := Aside0.mk (hbox); have GE216 := Aside0.mk (bG hg (HB.out)); have NB202_216 := cN hg BK202; have NB216_202 := cM hg BK202; have NB208_216 := cN hg BK208; have NB216_208 := cM hg BK208; have NB212_216 := cN hg BK212; have NB216_212 := cM hg BK212; replace BK202 := cB hb BK202; replace BK208 := cB hb BK208; replace BK212 := cB hb BK212; replace HB := Aside0.mk (below_step (HB.out) hb); clear hb hbox hg; have hnb46 := NB216_202.out; have hnc46 := NB202_216.out; have hnb47 := NB216_208.out; have hnc47 := NB208_216.out; have hnb48 := NB216_212.out; have hnc48 := NB212_216.out; obtain ⟨hcz49_0, hcz49_1⟩ := cells2 BK216.out; have hfz49_0 := blk_frozen BK216.out 0; have hfz49_1 := blk_frozen BK216.out 1; obtain ⟨hcz50_0, hcz50_1⟩ := cells2 BK202.out))
      go_meet
      case rel => exact ⟨_, H', ⟨by have := HJ8.out; first | omega | exact Nat.le_refl _⟩, ⟨(blk_far (blk_far BK202.out NB202_216.out _) NB202_216.out _)⟩, ⟨(below_set (below_set HB.out GE216.out) GE216.out)⟩⟩
     replace c31 := Bool.eq_false_iff.mpr c31
     subst c31
     have H1 : (some false) = some r := by rw [if_neg (show ¬ (false = true) by decide)] at H; exact H
     clear H
     have H := H1
     clear H1
     obtain rfl := Option.some.inj H
     obtain ⟨hcz51_0, hcz51_1⟩ := cells2 BK208.out
     obtain ⟨hcz52_0, hcz52_1⟩ := cells2 BK212.out
     go_wp2_with (first | ((with_reducible refine gate_callee (f := 17) rfl ?_); refine goesL_ (some 38) rfl rfl Try.func17 (by kernel_rfl) rfl #[.agg #[.int .i64 t205, .int .u64 t206], .agg #[.int .i64 t209, .int .u64 t210]] rfl (by (try simp only [List.map_toArray, List.map_cons, List.map_nil]); first | done | rfl | (simp only [List.length_drop, List.length_take]; rfl)) ?_; (with_reducible refine (wide_Add.calls t205 t206 t209 t210 t213 t214 false _ A30.out).mono ?_); rintro e w53 ⟨rfl, hb⟩; refine ⟨_, rfl, ?_⟩; replace BK202 := cB hb BK202; replace BK208 := cB hb BK208; replace BK212 := cB hb BK212; replace HB := Aside0.mk (below_step (HB.out) hb); (try clear hb); (try clear hb2); (try clear hk); (try clear hi)) | ((with_reducible refine gate_dst (N := 13) rfl ?_); refine box_event ?hg (N := 13) ?hd (cs := #[.int .i64 0, .int .u64 0]) (t := 30) ?hr ?_; (case hd => rfl); (case hg => rfl); (case hr => first | (go_simp; done) | (go_simp; rfl)); intro gb216 hg w54 hbox hb; have BK216 := Aside0.mk (hbox); have GE216 := Aside0.mk (bG hg (HB.out)); have NB202_216 := cN hg BK202; have NB216_202 := cM hg BK202; have NB208_216 := cN hg BK208; have NB216_208 := cM hg BK208; have NB212_216 := cN hg BK212; have NB216_212 := cM hg BK212; replace BK202 := cB hb BK202; replace BK208 := cB hb BK208; replace BK212 := cB hb BK212; replace HB := Aside0.mk (below_step (HB.out) hb); clear hb hbox hg; have hnb55 := NB216_202.out; have hnc55 := NB202_216.out; have hnb56 := NB216_208.out; have hnc56 := NB208_216.out; have hnb57 := NB216_212.out; have hnc57 := NB212_216.out; obtain ⟨hcz58_0, hcz58_1⟩ := cells2 BK216.out; have hfz58_0 := blk_frozen BK216.out 0; have hfz58_1 := blk_frozen BK216.out 1))
     go_ret
     exact ⟨by first | rfl | (simp [errW_none, errW_some] <;> rfl) | (simp [*, errW_none, errW_some] <;> rfl), (below_set (below_set HB.out GE216.out) GE216.out)⟩
    replace c29 := Bool.eq_false_iff.mpr c29
    subst c29
    have H1 : (relievolaw01_WideBack.j1 kj8 a2 a3) = some r := by rw [if_neg (show ¬ (false = true) by decide)] at H; exact H
    clear H
    have H := H1
    clear H1
    have H' := Aside0.mk H
    clear H
    go_wp2
    go_meet
    case rel => exact ⟨_, H', ⟨by have := HJ8.out; first | omega | exact Nat.le_refl _⟩, ⟨BK202.out⟩, ⟨HB.out⟩⟩
   clear HC28
   obtain ⟨kq, HA, HJ27, BK202, HB⟩ := hcut
   cases kq with
   | zero => exact absurd HA.out (by simp [relievolaw01_WideBack.j1])
   | succ kj27 =>
    have H := HA.out
    clear HA
    simp only [relievolaw01_WideBack.j1] at H
    by_cases c59 : a3 < 1
    ·rw [if_pos c59] at H
     have c59b0 : decide (a3 < 1) = true := decide_eq_true c59
     clear c59
     obtain rfl := Option.some.inj H
     go_wp2
     go_ret
     exact ⟨by first | rfl | (simp [errW_none, errW_some] <;> rfl) | (simp [*, errW_none, errW_some] <;> rfl), HB.out⟩
    rw [if_neg c59] at H
    have c59b0 : decide (a3 < 1) = false := decide_eq_false c59
    clear c59
    replace H := Option.bind_eq_some_iff.mp H
    obtain ⟨⟨t217, t218⟩, A600, H⟩ := H
    replace H : ((wide_Div.f kj27 t217 t218 a3).bind fun bt219 => ((wide_Int.f bt219.1 bt219.2.1).bind fun bt224 => (if bt219.2.2.2 = true then (if bt224.2 = true then (if bt224.1 = a2 then (some (bt219.2.2.1 == 0)) else (some false)) else (some false)) else (some false)))) = some r := H
    have A60 := Aside0.mk A600
    clear A600
    replace H := Option.bind_eq_some_iff.mp H
    obtain ⟨⟨t219, t220, t221, t222⟩, A610, H⟩ := H
    replace H : ((wide_Int.f t219 t220).bind fun bt224 => (if t222 = true then (if bt224.2 = true then (if bt224.1 = a2 then (some (t221 == 0)) else (some false)) else (some false)) else (some false))) = some r := H
    have A61 := Aside0.mk A610
    clear A610
    replace H := Option.bind_eq_some_iff.mp H
    obtain ⟨⟨t224, t225⟩, A620, H⟩ := H
    replace H : (if t222 = true then (if t225 = true then (if t224 = a2 then (some (t221 == 0)) else (some false)) else (some false)) else (some false)) = some r := H
    have A62 := Aside0.mk A620
    clear A620
    by_cases c63 : t222 = true
    ·subst c63
     have H1 : (if t225 = true then (if t224 = a2 then (some (t221 == 0)) else (some false)) else (some false)) = some r := by rw [if_pos rfl] at H; exact H
     clear H
     have H := H1
     clear H1
     by_cases c64 : t225 = true
     ·subst c64
      have H1 : (if t224 = a2 then (some (t221 == 0)) else (some false)) = some r := by rw [if_pos rfl] at H; exact H
      clear H
      have H := H1
      clear H1
      by_cases c65 : t224 = a2
      ·rw [if_pos c65] at H
       have c65b0 : (t224 == a2) = true := beq_iff_eq.mpr c65
       have c65b1 : (t224 != a2) = false := bne_eq_false_iff_eq.mpr c65
       clear c65
       obtain rfl := Option.some.inj H
       go_wp2_with (first | ((with_reducible refine gate_callee (f := 13) rfl ?_); refine goesL_ (some 53) rfl rfl Try.func13 (by kernel_rfl) rfl #[.int .i64 a2, .int .i64 a3] rfl (by (try simp only [List.map_toArray, List.map_cons, List.map_nil]); first | done | rfl | (simp only [List.length_drop, List.length_take]; rfl)) ?_; (with_reducible refine (wide_Mul.calls a2 a3 t217 t218 _ A60.out).mono ?_); rintro e w66 ⟨rfl, hb⟩; refine ⟨_, rfl, ?_⟩; replace HB := Aside0.mk (below_step (HB.out) hb); (try clear hb); (try clear hb2); (try clear hk); (try clear hi)) | ((with_reducible refine gate_callee (f := 18) rfl ?_); refine goesL_ (some 55) rfl rfl Try.func18 (by kernel_rfl) rfl #[.agg #[.int .i64 t217, .int .u64 t218], .int .i64 a3] rfl (by (try simp only [List.map_toArray, List.map_cons, List.map_nil]); first | done | rfl | (simp only [List.length_drop, List.length_take]; rfl)) ?_; (with_reducible refine (wide_Div.calls kj27 t217 t218 a3 t219 t220 t221 true _ A61.out).mono ?_); rintro e w67 ⟨rfl, hb⟩; refine ⟨_, rfl, ?_⟩; replace HB := Aside0.mk (below_step (HB.out) hb); (try clear hb); (try clear hb2); (try clear hk); (try clear hi)) | ((with_reducible refine gate_dst (N := 15) rfl ?_); refine box_event ?hg (N := 15) ?hd (cs := #[.int .i64 0, .int .u64 0]) (t := 30) ?hr ?_; (case hd => rfl); (case hg => rfl); (case hr => first | (go_simp; done) | (go_simp; rfl)); intro gb223 hg w68 hbox hb; have BK223 := Aside0.mk (hbox); have GE223 := Aside0.mk (bG hg (HB.out)); replace HB := Aside0.mk (below_step (HB.out) hb); clear hb hbox hg; obtain ⟨hcz69_0, hcz69_1⟩ := cells2 BK223.out; have hfz69_0 := blk_frozen BK223.out 0; have hfz69_1 := blk_frozen BK223.out 1) | ((with_reducible refine gate_callee (f := 19) rfl ?_); refine goesL_ (some 61) rfl rfl Try.func19 (by kernel_rfl) rfl #[.agg #[.int .i64 t219, .int .u64 t220]] rfl (by (try simp only [List.map_toArray, List.map_cons, List.map_nil]); first | done | rfl | (simp only [List.length_drop, List.length_take]; rfl)) ?_; (with_reducible refine (wide_Int.calls t219 t220 t224 true _ A62.out).mono ?_); rintro e w70 ⟨rfl, hb⟩; refine ⟨_, rfl, ?_⟩; replace BK223 := Aside0.mk (bB hb ((blk_put (cs' := #[.int .i64 t219, .int .u64 t220]) (blk_put BK223.out 0 _ rfl) 1 _ rfl))); replace HB := Aside0.mk (below_step ((below_set (below_set HB.out GE223.out) GE223.out)) hb); (try clear hb); (try clear hb2); (try clear hk); (try clear hi)))
       go_ret
       exact ⟨by first | rfl | (simp [errW_none, errW_some] <;> rfl) | (simp [*, errW_none, errW_some] <;> rfl), HB.out⟩
      rw [if_neg c65] at H
      have c65b0 : (t224 == a2) = false := beq_eq_false_iff_ne.mpr c65
      have c65b1 : (t224 != a2) = true := bne_iff_ne.mpr c65
      obtain rfl := Option.some.inj H
      go_wp2_with (first | ((with_reducible refine gate_callee (f := 13) rfl ?_); refine goesL_ (some 53) rfl rfl Try.func13 (by kernel_rfl) rfl #[.int .i64 a2, .int .i64 a3] rfl (by (try simp only [List.map_toArray, List.map_cons, List.map_nil]); first | done | rfl | (simp only [List.length_drop, List.length_take]; rfl)) ?_; (with_reducible refine (wide_Mul.calls a2 a3 t217 t218 _ A60.out).mono ?_); rintro e w71 ⟨rfl, hb⟩; refine ⟨_, rfl, ?_⟩; replace HB := Aside0.mk (below_step (HB.out) hb); (try clear hb); (try clear hb2); (try clear hk); (try clear hi)) | ((with_reducible refine gate_callee (f := 18) rfl ?_); refine goesL_ (some 55) rfl rfl Try.func18 (by kernel_rfl) rfl #[.agg #[.int .i64 t217, .int .u64 t218], .int .i64 a3] rfl (by (try simp only [List.map_toArray, List.map_cons, List.map_nil]); first | done | rfl | (simp only [List.length_drop, List.length_take]; rfl)) ?_; (with_reducible refine (wide_Div.calls kj27 t217 t218 a3 t219 t220 t221 true _ A61.out).mono ?_); rintro e w72 ⟨rfl, hb⟩; refine ⟨_, rfl, ?_⟩; replace HB := Aside0.mk (below_step (HB.out) hb); (try clear hb); (try clear hb2); (try clear hk); (try clear hi)) | ((with_reducible refine gate_dst (N := 15) rfl ?_); refine box_event ?hg (N := 15) ?hd (cs := #[.int .i64 0, .int .u64 0]) (t := 30) ?hr ?_; (case hd => rfl); (case hg => rfl); (case hr => first | (go_simp; done) | (go_simp; rfl)); intro gb223 hg w73 hbox hb; have BK223 := Aside0.mk (hbox); have GE223 := Aside0.mk (bG hg (HB.out)); replace HB := Aside0.mk (below_step (HB.out) hb); clear hb hbox hg; obtain ⟨hcz74_0, hcz74_1⟩ := cells2 BK223.out; have hfz74_0 := blk_frozen BK223.out 0; have hfz74_1 := blk_frozen BK223.out 1) | ((with_reducible refine gate_callee (f := 19) rfl ?_); refine goesL_ (some 61) rfl rfl Try.func19 (by kernel_rfl) rfl #[.agg #[.int .i64 t219, .int .u64 t220]] rfl (by (try simp only [List.map_toArray, List.map_cons, List.map_nil]); first | done | rfl | (simp only [List.length_drop, List.length_take]; rfl)) ?_; (with_reducible refine (wide_Int.calls t219 t220 t224 true _ A62.out).mono ?_); rintro e w75 ⟨rfl, hb⟩; refine ⟨_, rfl, ?_⟩; replace BK223 := Aside0.mk (bB hb ((blk_put (cs' := #[.int .i64 t219, .int .u64 t220]) (blk_put BK223.out 0 _ rfl) 1 _ rfl))); replace HB := Aside0.mk (below_step ((below_set (below_set HB.out GE223.out) GE223.out)) hb); (try clear hb); (try clear hb2); (try clear hk); (try clear hi)))
      go_ret
      exact ⟨by first | rfl | (simp [errW_none, errW_some] <;> rfl) | (simp [*, errW_none, errW_some] <;> rfl), HB.out⟩
     replace c64 := Bool.eq_false_iff.mpr c64
     subst c64
     have H1 : (some false) = some r := by rw [if_neg (show ¬ (false = true) by decide)] at H; exact H
     clear H
     have H := H1
     clear H1
     obtain rfl := Option.some.inj H
     go_wp2_with (first | ((with_reducible refine gate_callee (f := 13) rfl ?_); refine goesL_ (some 53) rfl rfl Try.func13 (by kernel_rfl) rfl #[.int .i64 a2, .int .i64 a3] rfl (by (try simp only [List.map_toArray, List.map_cons, List.map_nil]); first | done | rfl | (simp only [List.length_drop, List.length_take]; rfl)) ?_; (with_reducible refine (wide_Mul.calls a2 a3 t217 t218 _ A60.out).mono ?_); rintro e w76 ⟨rfl, hb⟩; refine ⟨_, rfl, ?_⟩; replace HB := Aside0.mk (below_step (HB.out) hb); (try clear hb); (try clear hb2); (try clear hk); (try clear hi)) | ((with_reducible refine gate_callee (f := 18) rfl ?_); refine goesL_ (some 55) rfl rfl Try.func18 (by kernel_rfl) rfl #[.agg #[.int .i64 t217, .int .u64 t218], .int .i64 a3] rfl (by (try simp only [List.map_toArray, List.map_cons, List.map_nil]); first | done | rfl | (simp only [List.length_drop, List.length_take]; rfl)) ?_; (with_reducible refine (wide_Div.calls kj27 t217 t218 a3 t219 t220 t221 true _ A61.out).mono ?_); rintro e w77 ⟨rfl, hb⟩; refine ⟨_, rfl, ?_⟩; replace HB := Aside0.mk (below_step (HB.out) hb); (try clear hb); (try clear hb2); (try clear hk); (try clear hi)) | ((with_reducible refine gate_dst (N := 15) rfl ?_); refine box_event ?hg (N := 15) ?hd (cs := #[.int .i64 0, .int .u64 0]) (t := 30) ?hr ?_; (case hd => rfl); (case hg => rfl); (case hr => first | (go_simp; done) | (go_simp; rfl)); intro gb223 hg w78 hbox hb; have BK223 := Aside0.mk (hbox); have GE223 := Aside0.mk (bG hg (HB.out)); replace HB := Aside0.mk (below_step (HB.out) hb); clear hb hbox hg; obtain ⟨hcz79_0, hcz79_1⟩ := cells2 BK223.out; have hfz79_0 := blk_frozen BK223.out 0; have hfz79_1 := blk_frozen BK223.out 1) | ((with_reducible refine gate_callee (f := 19) rfl ?_); refine goesL_ (some 61) rfl rfl Try.func19 (by kernel_rfl) rfl #[.agg #[.int .i64 t219, .int .u64 t220]] rfl (by (try simp only [List.map_toArray, List.map_cons, List.map_nil]); first | done | rfl | (simp only [List.length_drop, List.length_take]; rfl)) ?_; (with_reducible refine (wide_Int.calls t219 t220 t224 false _ A62.out).mono ?_); rintro e w80 ⟨rfl, hb⟩; refine ⟨_, rfl, ?_⟩; replace BK223 := Aside0.mk (bB hb ((blk_put (cs' := #[.int .i64 t219, .int .u64 t220]) (blk_put BK223.out 0 _ rfl) 1 _ rfl))); replace HB := Aside0.mk (below_step ((below_set (below_set HB.out GE223.out) GE223.out)) hb); (try clear hb); (try clear hb2); (try clear hk); (try clear hi)))
     go_ret
     exact ⟨by first | rfl | (simp [errW_none, errW_some] <;> rfl) | (simp [*, errW_none, errW_some] <;> rfl), HB.out⟩
    replace c63 := Bool.eq_false_iff.mpr c63
    subst c63
    have H1 : (some false) = some r := by rw [if_neg (show ¬ (false = true) by decide)] at H; exact H
    clear H
    have H := H1
    clear H1
    obtain rfl := Option.some.inj H
    go_wp2_with (first | ((with_reducible refine gate_callee (f := 13) rfl ?_); refine goesL_ (some 53) rfl rfl Try.func13 (by kernel_rfl) rfl #[.int .i64 a2, .int .i64 a3] rfl (by (try simp only [List.map_toArray, List.map_cons, List.map_nil]); first | done | rfl | (simp only [List.length_drop, List.length_take]; rfl)) ?_; (with_reducible refine (wide_Mul.calls a2 a3 t217 t218 _ A60.out).mono ?_); rintro e w81 ⟨rfl, hb⟩; refine ⟨_, rfl, ?_⟩; replace HB := Aside0.mk (below_step (HB.out) hb); (try clear hb); (try clear hb2); (try clear hk); (try clear hi)) | ((with_reducible refine gate_callee (f := 18) rfl ?_); refine goesL_ (some 55) rfl rfl Try.func18 (by kernel_rfl) rfl #[.agg #[.int .i64 t217, .int .u64 t218], .int .i64 a3] rfl (by (try simp only [List.map_toArray, List.map_cons, List.map_nil]); first | done | rfl | (simp only [List.length_drop, List.length_take]; rfl)) ?_; (with_reducible refine (wide_Div.calls kj27 t217 t218 a3 t219 t220 t221 false _ A61.out).mono ?_); rintro e w82 ⟨rfl, hb⟩; refine ⟨_, rfl, ?_⟩; replace HB := Aside0.mk (below_step (HB.out) hb); (try clear hb); (try clear hb2); (try clear hk); (try clear hi)) | ((with_reducible refine gate_dst (N := 15) rfl ?_); refine box_event ?hg (N := 15) ?hd (cs := #[.int .i64 0, .int .u64 0]) (t := 30) ?hr ?_; (case hd => rfl); (case hg => rfl); (case hr => first | (go_simp; done) | (go_simp; rfl)); intro gb223 hg w83 hbox hb; have BK223 := Aside0.mk (hbox); have GE223 := Aside0.mk (bG hg (HB.out)); replace HB := Aside0.mk (below_step (HB.out) hb); clear hb hbox hg; obtain ⟨hcz84_0, hcz84_1⟩ := cells2 BK223.out; have hfz84_0 := blk_frozen BK223.out 0; have hfz84_1 := blk_frozen BK223.out 1) | ((with_reducible refine gate_callee (f := 19) rfl ?_); refine goesL_ (some 61) rfl rfl Try.func19 (by kernel_rfl) rfl #[.agg #[.int .i64 t219, .int .u64 t220]] rfl (by (try simp only [List.map_toArray, List.map_cons, List.map_nil]); first | done | rfl | (simp only [List.length_drop, List.length_take]; rfl)) ?_; (with_reducible refine (wide_Int.calls t219 t220 t224 t225 _ A62.out).mono ?_); rintro e w85 ⟨rfl, hb⟩; refine ⟨_, rfl, ?_⟩; replace BK223 := Aside0.mk (bB hb ((blk_put (cs' := #[.int .i64 t219, .int .u64 t220]) (blk_put BK223.out 0 _ rfl) 1 _ rfl))); replace HB := Aside0.mk (below_step ((below_set (below_set HB.out GE223.out) GE223.out)) hb); (try clear hb); (try clear hb2); (try clear hk); (try clear hi)))
    go_ret
    exact ⟨by first | rfl | (simp [errW_none, errW_some] <;> rfl) | (simp [*, errW_none, errW_some] <;> rfl), HB.out⟩
 replace c6 := Bool.eq_false_iff.mpr c6
 subst c6
 have H1 : (some false) = some r := by rw [if_neg (show ¬ (false = true) by decide)] at H; exact H
 clear H
 have H := H1
 clear H1
 obtain rfl := Option.some.inj H
 go_enter Try.func9, Try.ntmps9
 go_wp2_with (first | ((with_reducible refine gate_dst (N := 4) rfl ?_); refine box_event ?hg (N := 4) ?hd (cs := #[.int .i64 a0_0, .int .u64 a0_1]) (t := 30) ?hr ?_; (case hd => rfl); (case hg => rfl); (case hr => first | (go_simp; done) | (go_simp; rfl)); intro gb202 hg w86 hbox hb; have BK202 := Aside0.mk (hbox); have GE202 := Aside0.mk (bG hg (HB.out)); replace HB := Aside0.mk (below_step (HB.out) hb); clear hb hbox hg) | ((with_reducible refine gate_dst (N := 5) rfl ?_); refine box_event ?hg (N := 5) ?hd (cs := #[.int .i64 a1_0, .int .u64 a1_1]) (t := 30) ?hr ?_; (case hd => rfl); (case hg => rfl); (case hr => first | (go_simp; done) | (go_simp; rfl)); intro gb203 hg w87 hbox hb; have BK203 := Aside0.mk (hbox); have GE203 := Aside0.mk (bG hg (HB.out)); have NB202_203 := cN hg BK202; have NB203_202 := cM hg BK202; replace BK202 := cB hb BK202; replace HB := Aside0.mk (below_step (HB.out) hb); clear hb hbox hg) | ((with_reducible refine gate_callee (f := 11) rfl ?_); refine goesL_ (some 18) rfl rfl Try.func11 (by kernel_rfl) rfl #[] rfl (by (try simp only [List.map_toArray, List.map_cons, List.map_nil]); first | done | rfl | (simp only [List.length_drop, List.length_take]; rfl)) ?_; (with_reducible refine (relievolaw01_alive.calls k  false _ A5.out).mono ?_); rintro e w88 ⟨rfl, hb⟩; refine ⟨_, rfl, ?_⟩; replace BK202 := cB hb BK202; replace BK203 := cB hb BK203; replace HB := Aside0.mk (below_step (HB.out) hb); (try clear hb); (try clear hb2); (try clear hk); (try clear hi)))
 go_ret
 exact ⟨by first | rfl | (simp [errW_none, errW_some] <;> rfl) | (simp [*, errW_none, errW_some] <;> rfl), HB.out⟩

end Go.Proofs.Ytmkdnoikbefimaa.G
