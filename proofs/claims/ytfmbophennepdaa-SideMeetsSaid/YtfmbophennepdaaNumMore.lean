/- More number contracts of the document, put together. -/
import Derived.Test.YtfmbophennepdaaNumAll
import Derived.Laws.MathBits
namespace Go.Proofs.Ytfmbophennepdaa.G
open Go.RowKit Go.Proofs.NumMath Go.Proofs.YtfmbophennepdaaW.PrintWords Go.Proofs.YtfmbophennepdaaW.PrintLast Go.Proofs.YtfmbophennepdaaW.PrintMore
attribute [local go_sem] max2_int min2_int max_two min_two max_three min_three max_four min_four
set_option linter.unusedVariables false
set_option linter.unusedSimpArgs false
section
variable {P : Program}
theorem exec_mid {o : Oper} {a : Act} {w : World} {ty : TypeId} {x : Operand} (ho : o.op = .load ty x) {b k : Nat} (hx : a.eval x = .pointer (some ⟨b, k, none⟩)) {cs : List Value} {cells : Array Value} (hcs : cs.toArray = cells) {d : TypeDesc} (hc : w.rangeAt b k cs)
    (hu : P.underlying ty = some d) (hd : d.isRow = true) (hi : (P.info? ty).map (·.size) = some cells.size) : (execOp a.eval o).run P w = .ok (.value (.agg cells)) w := by
  subst hcs
  have h := run_loadAt_mid (P := P) w b k ty cs d hc hu hd (by rw [hi]; simp)
  unfold execOp
  simp [ho, hx, h]
end
end Go.Proofs.Ytfmbophennepdaa.G

namespace Go.Proofs.NumMath
/-- The sum: n digits of it, and what is carried. -/
def addL (A B : List Int) : Nat → List Int × Int
  | 0 => (Z18, 0)
  | n + 1 => ((addL A B n).1.set n ((A.getD n 0 + B.getD n 0 + (addL A B n).2) % 65536), (A.getD n 0 + B.getD n 0 + (addL A B n).2) / 65536)
/-- The difference: n digits of it, and what is borrowed. -/
def subL (A B : List Int) : Nat → List Int × Int
  | 0 => (Z18, 0)
  | n + 1 => ((subL A B n).1.set n (if A.getD n 0 - B.getD n 0 - (subL A B n).2 < 0 then A.getD n 0 - B.getD n 0 - (subL A B n).2 + 65536 else A.getD n 0 - B.getD n 0 - (subL A B n).2), if A.getD n 0 - B.getD n 0 - (subL A B n).2 < 0 then 1 else 0)
theorem addL_dig {A B : List Int} (hA : Dig A) (hB : Dig B) : ∀ n, Dig (addL A B n).1 ∧ 0 ≤ (addL A B n).2 ∧ (addL A B n).2 ≤ 1
  | 0 => ⟨dig_zero, by simp [addL]⟩
  | n + 1 => by
    obtain ⟨h1, h2, h3⟩ := addL_dig hA hB n
    have p := hA.2 n
    have q := hB.2 n
    unfold addL
    dsimp only
    exact ⟨dig_set h1 _ _ (by omega), by omega, by omega⟩
theorem subL_dig {A B : List Int} (hA : Dig A) (hB : Dig B) : ∀ n, Dig (subL A B n).1 ∧ 0 ≤ (subL A B n).2 ∧ (subL A B n).2 ≤ 1
  | 0 => ⟨dig_zero, by simp [subL]⟩
  | n + 1 => by
    obtain ⟨h1, h2, h3⟩ := subL_dig hA hB n
    have p := hA.2 n
    have q := hB.2 n
    unfold subL
    dsimp only
    refine ⟨dig_set h1 _ _ ?_, ?_, ?_⟩ <;> split <;> omega
theorem addL_val {A B : List Int} (hA : Dig A) (hB : Dig B) : ∀ n, n ≤ 18 → val (addL A B n).1 18 + (addL A B n).2 * 65536 ^ n = val A n + val B n ∧ ∀ j, n ≤ j → (addL A B n).1.getD j 0 = 0
  | 0, _ => ⟨by rw [show (addL A B 0).1 = Z18 from rfl, val_zero]; rfl, fun j _ => by
      by_cases h : j < 18
      · exact (by decide : ∀ n, n < 18 → Z18.getD n 0 = 0) j h
      · have : Z18[j]? = none := by simp [Z18]; omega
        simp [addL, List.getD, this]⟩
  | n + 1, h => by
    obtain ⟨ih, iz⟩ := addL_val hA hB n (by omega)
    have hd := (addL_dig hA hB n).1.1
    have z := iz n (Nat.le_refl _)
    refine ⟨?_, fun j hj => by rw [addL]; dsimp only; rw [getD_set_ne _ (by omega)]; exact iz j (by omega)⟩
    rw [addL, val_set _ _ (by omega) _ (by omega), z]
    dsimp only
    rw [show val A (n + 1) = val A n + A.getD n 0 * 65536 ^ n from rfl, show val B (n + 1) = val B n + B.getD n 0 * 65536 ^ n from rfl, Int.pow_succ]
    generalize A.getD n 0 = a at *
    generalize B.getD n 0 = b at *
    generalize (addL A B n).2 = c at *
    generalize val (addL A B n).1 18 = v at *
    have e := Int.emod_add_mul_ediv (a + b + c) 65536
    generalize (a + b + c) % 65536 = r at *
    generalize (a + b + c) / 65536 = q at *
    generalize (65536 : Int) ^ n = P at *
    generalize val A n = x at *
    generalize val B n = y at *
    have e' : r = a + b + c - 65536 * q := by omega
    subst e'
    grind
theorem subL_val {A B : List Int} (hA : Dig A) (hB : Dig B) : ∀ n, n ≤ 18 → val (subL A B n).1 18 - (subL A B n).2 * 65536 ^ n = val A n - val B n ∧ ∀ j, n ≤ j → (subL A B n).1.getD j 0 = 0
  | 0, _ => ⟨by rw [show (subL A B 0).1 = Z18 from rfl, val_zero]; rfl, fun j _ => by
      by_cases h : j < 18
      · exact (by decide : ∀ n, n < 18 → Z18.getD n 0 = 0) j h
      · have : Z18[j]? = none := by simp [Z18]; omega
        simp [subL, List.getD, this]⟩
  | n + 1, h => by
    obtain ⟨ih, iz⟩ := subL_val hA hB n (by omega)
    have hd := (subL_dig hA hB n).1.1
    have z := iz n (Nat.le_refl _)
    refine ⟨?_, fun j hj => by rw [subL]; dsimp only; rw [getD_set_ne _ (by omega)]; exact iz j (by omega)⟩
    rw [subL, val_set _ _ (by omega) _ (by omega), z]
    dsimp only
    rw [show val A (n + 1) = val A n + A.getD n 0 * 65536 ^ n from rfl, show val B (n + 1) = val B n + B.getD n 0 * 65536 ^ n from rfl, Int.pow_succ]
    generalize A.getD n 0 = a at *
    generalize B.getD n 0 = b at *
    generalize (subL A B n).2 = c at *
    generalize val (subL A B n).1 18 = v at *
    generalize (65536 : Int) ^ n = P at *
    generalize val A n = x at *
    generalize val B n = y at *
    by_cases s : a - b - c < 0
    · rw [if_pos s, if_pos s]
      grind
    · rw [if_neg s, if_neg s]
      grind
theorem add_sum {A B : List Int} (hA : Dig A) (hB : Dig B) (h : val A 18 + val B 18 < 65536 ^ 18) : val (addL A B 18).1 18 = val A 18 + val B 18 := by
  have e := (addL_val hA hB 18 (Nat.le_refl _)).1
  obtain ⟨d, c0, c1⟩ := addL_dig hA hB 18
  have v0 := (val_range d.2 18).1
  by_cases z : (addL A B 18).2 = 0
  · rw [z, Int.zero_mul, Int.add_zero] at e
    exact e
  · have o : (addL A B 18).2 = 1 := by omega
    rw [o, Int.one_mul] at e
    omega
theorem sub_diff {A B : List Int} (hA : Dig A) (hB : Dig B) (h : val B 18 ≤ val A 18) : val (subL A B 18).1 18 = val A 18 - val B 18 := by
  have e := (subL_val hA hB 18 (Nat.le_refl _)).1
  obtain ⟨d, c0, c1⟩ := subL_dig hA hB 18
  have v0 := (val_range d.2 18).2
  by_cases z : (subL A B 18).2 = 0
  · rw [z, Int.zero_mul, Int.sub_zero] at e
    exact e
  · have o : (subL A B 18).2 = 1 := by omega
    rw [o, Int.one_mul] at e
    omega
end Go.Proofs.NumMath

namespace Go.Proofs.Ytfmbophennepdaa.G
open Go.RowKit Go.Proofs.NumMath Go.Proofs.YtfmbophennepdaaW.PrintWords Go.Proofs.YtfmbophennepdaaW.PrintLast Go.Proofs.YtfmbophennepdaaW.PrintMore
set_option linter.unusedVariables false
set_option linter.unusedSimpArgs false

theorem add_facts {x y c : Int} (p : 0 ≤ x ∧ x ≤ 65535) (q : 0 ≤ y ∧ y ≤ 65535) (h : 0 ≤ c ∧ c ≤ 1) :
    wrap64 (x + y) = x + y ∧ wrap64 (x + y + c) = x + y + c ∧ Int.tmod (x + y + c) 65536 = (x + y + c) % 65536 ∧ Int.tdiv (x + y + c) 65536 = (x + y + c) / 65536 ∧
      wrap64 ((x + y + c) % 65536) = (x + y + c) % 65536 ∧ wrap64 ((x + y + c) / 65536) = (x + y + c) / 65536 := by
  refine ⟨by unfold wrap64; omega, by unfold wrap64; omega, Int.tmod_eq_emod_of_nonneg (by omega), Int.tdiv_eq_ediv_of_nonneg (by omega), by unfold wrap64; omega, by unfold wrap64; omega⟩
set_option maxHeartbeats 1000000 in
set_option maxRecDepth 100000 in
theorem plus_same.calls (a : Bool) (A B : List Int) (hA : Dig A) (hB : Dig B) (w : World) :
    Calls Try.prog 45 #[.agg (numA a A), .agg (numA a B)] w fun e w' => e = .returned (.agg (numA (a && !((addL A B 18).1 == Z18)) (addL A B 18).1)) ∧ Below w.heap.size w w' := by
 have hu67 := Try.underlying67
 have hu69 := Try.underlying69
 have HB := Aside0.mk (Below.refl w.heap.size w)
 go_enter Try.func45, Try.ntmps45
 cases a
 · skip
   go_wp2_with (first
    | ((with_reducible refine gate_dst (N := 2) rfl ?_); refine box_event ?hg (N := 2) ?hd (cs := numA false A) (t := 69) ?hr ?_; (case hd => rfl); (case hg => rfl); (case hr => first | (go_simp; done) | (go_simp; rfl)); intro g2 hg w3 hbox hb; have BK2 := Aside0.mk (hbox); have GE2 := Aside0.mk (bG hg (HB.out)); replace HB := Aside0.mk (below_step (HB.out) hb); clear hb hbox hg)
    | ((with_reducible refine gate_dst (N := 3) rfl ?_); refine box_event ?hg (N := 3) ?hd (cs := numA false B) (t := 69) ?hr ?_; (case hd => rfl); (case hg => rfl); (case hr => first | (go_simp; done) | (go_simp; rfl)); intro g3 hg w4 hbox hb; have BK3 := Aside0.mk (hbox); have GE3 := Aside0.mk (bG hg (HB.out)); have N23 := cN hg BK2; have N32 := cM hg BK2; replace HB := Aside0.mk (below_step (HB.out) hb); replace BK2 := cB hb BK2; clear hb hbox hg)
    | ((with_reducible refine gate_dst (N := 4) rfl ?_); refine box_event ?hg (N := 4) ?hd (cs := numA false Z18) (t := 69) ?hr ?_; (case hd => rfl); (case hg => rfl); (case hr => first | (go_simp; done) | (go_simp; rfl)); intro g4 hg w6 hbox hb; have BK4 := Aside0.mk (hbox); have GE4 := Aside0.mk (bG hg (HB.out)); have N24 := cN hg BK2; have N34 := cN hg BK3; have N42 := cM hg BK2; have N43 := cM hg BK3; replace HB := Aside0.mk (below_step (HB.out) hb); replace BK2 := cB hb BK2; replace BK3 := cB hb BK3; clear hb hbox hg)
    | ((with_reducible refine gate_dst (N := 5) rfl ?_); refine box_event ?hg (N := 5) ?hd (cs := numA false Z18) (t := 69) ?hr ?_; (case hd => rfl); (case hg => rfl); (case hr => first | (go_simp; done) | (go_simp; rfl)); intro g5 hg w8 hbox hb; have BK5 := Aside0.mk (hbox); have GE5 := Aside0.mk (bG hg (HB.out)); have N25 := cN hg BK2; have N35 := cN hg BK3; have N45 := cN hg BK4; replace HB := Aside0.mk (below_step (HB.out) hb); replace BK2 := cB hb BK2; replace BK3 := cB hb BK3; replace BK4 := cB hb BK4; clear hb hbox hg)
    | ((with_reducible refine gate_store2 (t := 69) (x := .tmp 5) (y := .tmp 12) rfl ?_); refine ev_row rfl 69 (.tmp 5) (.tmp 12) rfl rfl g5 (numA false Z18) ?hx ?hy 69 (numA false Z18) BK5.out (num_info rfl) rfl (numA_one _ _) HB.out GE5.out ?_; (case hx => first | (go_simp; done) | rfl); (case hy => first | (go_simp; done) | rfl | (go_simp; rfl)); intro w5 hbox hb hk; replace BK5 := Aside0.mk hbox; replace HB := Aside0.mk hb; replace BK2 := Aside0.mk ((hk _ N25.out).trans BK2.out); replace BK3 := Aside0.mk ((hk _ N35.out).trans BK3.out); replace BK4 := Aside0.mk ((hk _ N45.out).trans BK4.out); clear hbox hb hk; have c2 := (blk_cell BK2.out 0).trans (numA_get0 false A); have c3 := (blk_cell BK3.out 0).trans (numA_get0 false B)))
   go_loopg [6, 7, 8] 18 (fun kq v6 v7 v8 w' => ∃ (i : Nat), v7 = .int .i64 i ∧ v6 = .int .i64 (addL A B i).2 ∧ Aside0 (i + kq = 18) ∧ Aside0 (w'.heap[g5]? = some (.cells (numA false (addL A B i).1) 69 (0, 0))) ∧ Aside0 (w'.heap[g2]? = some (.cells (numA false A) 69 (0, 0))) ∧ Aside0 (w'.heap[g3]? = some (.cells (numA false B) 69 (0, 0))) ∧ Aside0 (w'.heap[g4]? = some (.cells (numA false Z18) 69 (0, 0))) ∧ Aside0 (Below w.heap.size w w'))
   case atStart => exact ⟨0, rfl, rfl, ⟨rfl⟩, BK5, BK2, BK3, BK4, HB⟩
   case round =>
    clear BK2 BK3 BK4 BK5 HB c2 c3
    obtain ⟨i, rfl, rfl, HI, CK5, CK2, CK3, CK4, HC⟩ := hrel
    have hi := HI.out
    cases gk with
    | zero =>
     have ei : i = 18 := by omega
     subst ei
     have hO := (addL_dig hA hB 18).1
     obtain ⟨O, EO⟩ : ∃ O, Aside0 ((addL A B 18).1 = O) := ⟨_, ⟨rfl⟩⟩
     rw [EO.out] at hO CK5
     have hl : O.length = 18 := hO.1
     have d1 : decide (((18 : Nat) : Int) < 18) = false := rfl
     have ca := (blk_cell CK2.out 0).trans (numA_get0 false A)
     clear hO hA hB
     have c5 := (blk_cell CK5.out 0).trans (numA_get0 false O)
     have f5 := blk_frozen CK5.out 0
     go_wp2_with (first
      | ((with_reducible refine gate_dst (N := 49) rfl ?_); refine wpList_load_row rfl 69 (.tmp 5) rfl g5 ?hx 69 (numA (false) O) (0, 0) _ (blk_put CK5.out 0 _ (numA_neg false (false) O)) hu69 rfl (num_info hl) ?_; (case hx => first | (go_simp; done) | rfl))
      | ((with_reducible refine gate_store2 (t := 69) (x := .tmp 4) (y := .tmp 49) rfl ?_); refine ev_row rfl 69 (.tmp 4) (.tmp 49) rfl rfl g4 (numA (false) O) ?hx ?hy 69 (numA false Z18) (blk_far CK4.out (by exact N45.out) _) (num_info hl) ((numA_size rfl).trans (numA_size hl).symm) (numA_one _ _) (below_set HC.out GE5.out) GE4.out ?_; (case hx => first | (go_simp; done) | rfl); (case hy => first | (go_simp; done) | rfl); intro w7 hbox hb hk; replace CK4 := Aside0.mk hbox; replace HC := Aside0.mk hb; clear hbox hb hk))
     (try simp only [Exit.inBlock, Exit.then])
     refine bodyPost_ret (results_cell_row rfl _ _ g4 69 (numA (false) O) (0, 0) _ rfl CK4.out Try.underlying69 rfl (by exact num_info hl)) rfl ?_
     refine ⟨?_, HC.out⟩
     first | (rw [EO.out]; done) | (simp only [EO.out]; rfl)
    | succ gj =>
     have d1 : decide ((i : Int) < 18) = true := decide_eq_true (by omega)
     have i0 : (0 : Int) ≤ i := by omega
     have i1 : (i : Int) < 18 := by omega
     have mer : i + 1 + gj = 18 := by omega
     obtain ⟨hO, hc0, hc1⟩ := addL_dig hA hB i
     have AE := Aside0.mk (show addL A B (i + 1) = ((addL A B i).1.set i ((A.getD i 0 + B.getD i 0 + (addL A B i).2) % 65536), (A.getD i 0 + B.getD i 0 + (addL A B i).2) / 65536) from rfl)
     have co := (blk_cell CK5.out (1 + i)).trans (numA_get (b := false) (by rw [hO.1]; omega))
     have fo := blk_frozen CK5.out (1 + i)
     have ca := (blk_cell CK2.out (1 + i)).trans (numA_get (b := false) (by rw [hA.1]; omega : i < A.length))
     have cb := (blk_cell CK3.out (1 + i)).trans (numA_get (b := false) (by rw [hB.1]; omega : i < B.length))
     have p := hA.2 i
     have q := hB.2 i
     obtain ⟨c, EC⟩ : ∃ c, (addL A B i).2 = c := ⟨_, rfl⟩
     rw [EC] at hc0 hc1 AE ⊢
     clear EC
     generalize A.getD i 0 = x at ca p AE
     generalize B.getD i 0 = y at cb q AE
     obtain ⟨O, EO⟩ : ∃ O, (addL A B i).1 = O := ⟨_, rfl⟩
     rw [EO] at co CK5 AE hO
     clear EO hO hA hB
     obtain ⟨e1, e2, e3, e4, e5, e6⟩ := add_facts p q ⟨hc0, hc1⟩
     clear p q hc0 hc1
     go_wp2
     go_quiet (fail)
     go_wp2
     go_roundg gj
     case measure => exact Nat.lt_succ_self _
     case rel =>
      refine ⟨i + 1, by simp, ?_, ⟨mer⟩, ⟨?_⟩, ⟨?_⟩, ⟨?_⟩, ⟨?_⟩, ⟨?_⟩⟩
      · exact congrArg (Value.int .i64) (e6.trans (congrArg Prod.snd AE.out).symm)
      · refine blk_put (w := wr.drewN nq) CK5.out (1 + i) _ ?_
        rw [AE.out]
        exact numA_set _ _ _ _
      · exact blk_far (w := wr.drewN nq) CK2.out (by exact N25.out) _
      · exact blk_far (w := wr.drewN nq) CK3.out (by exact N35.out) _
      · exact blk_far (w := wr.drewN nq) CK4.out (by exact N45.out) _
      · refine below_set ?_ GE5.out
        repeat (first | exact HC.out | apply pw_below_drewN | apply below_drew1)
 · skip
   go_wp2_with (first
    | ((with_reducible refine gate_dst (N := 2) rfl ?_); refine box_event ?hg (N := 2) ?hd (cs := numA true A) (t := 69) ?hr ?_; (case hd => rfl); (case hg => rfl); (case hr => first | (go_simp; done) | (go_simp; rfl)); intro g2 hg w3 hbox hb; have BK2 := Aside0.mk (hbox); have GE2 := Aside0.mk (bG hg (HB.out)); replace HB := Aside0.mk (below_step (HB.out) hb); clear hb hbox hg)
    | ((with_reducible refine gate_dst (N := 3) rfl ?_); refine box_event ?hg (N := 3) ?hd (cs := numA true B) (t := 69) ?hr ?_; (case hd => rfl); (case hg => rfl); (case hr => first | (go_simp; done) | (go_simp; rfl)); intro g3 hg w4 hbox hb; have BK3 := Aside0.mk (hbox); have GE3 := Aside0.mk (bG hg (HB.out)); have N23 := cN hg BK2; have N32 := cM hg BK2; replace HB := Aside0.mk (below_step (HB.out) hb); replace BK2 := cB hb BK2; clear hb hbox hg)
    | ((with_reducible refine gate_dst (N := 4) rfl ?_); refine box_event ?hg (N := 4) ?hd (cs := numA false Z18) (t := 69) ?hr ?_; (case hd => rfl); (case hg => rfl); (case hr => first | (go_simp; done) | (go_simp; rfl)); intro g4 hg w6 hbox hb; have BK4 := Aside0.mk (hbox); have GE4 := Aside0.mk (bG hg (HB.out)); have N24 := cN hg BK2; have N34 := cN hg BK3; have N42 := cM hg BK2; have N43 := cM hg BK3; replace HB := Aside0.mk (below_step (HB.out) hb); replace BK2 := cB hb BK2; replace BK3 := cB hb BK3; clear hb hbox hg)
    | ((with_reducible refine gate_dst (N := 5) rfl ?_); refine box_event ?hg (N := 5) ?hd (cs := numA false Z18) (t := 69) ?hr ?_; (case hd => rfl); (case hg => rfl); (case hr => first | (go_simp; done) | (go_simp; rfl)); intro g5 hg w8 hbox hb; have BK5 := Aside0.mk (hbox); have GE5 := Aside0.mk (bG hg (HB.out)); have N25 := cN hg BK2; have N35 := cN hg BK3; have N45 := cN hg BK4; replace HB := Aside0.mk (below_step (HB.out) hb); replace BK2 := cB hb BK2; replace BK3 := cB hb BK3; replace BK4 := cB hb BK4; clear hb hbox hg)
    | ((with_reducible refine gate_store2 (t := 69) (x := .tmp 5) (y := .tmp 12) rfl ?_); refine ev_row rfl 69 (.tmp 5) (.tmp 12) rfl rfl g5 (numA false Z18) ?hx ?hy 69 (numA false Z18) BK5.out (num_info rfl) rfl (numA_one _ _) HB.out GE5.out ?_; (case hx => first | (go_simp; done) | rfl); (case hy => first | (go_simp; done) | rfl | (go_simp; rfl)); intro w5 hbox hb hk; replace BK5 := Aside0.mk hbox; replace HB := Aside0.mk hb; replace BK2 := Aside0.mk ((hk _ N25.out).trans BK2.out); replace BK3 := Aside0.mk ((hk _ N35.out).trans BK3.out); replace BK4 := Aside0.mk ((hk _ N45.out).trans BK4.out); clear hbox hb hk; have c2 := (blk_cell BK2.out 0).trans (numA_get0 true A); have c3 := (blk_cell BK3.out 0).trans (numA_get0 true B)))
   go_loopg [6, 7, 8] 18 (fun kq v6 v7 v8 w' => ∃ (i : Nat), v7 = .int .i64 i ∧ v6 = .int .i64 (addL A B i).2 ∧ Aside0 (i + kq = 18) ∧ Aside0 (w'.heap[g5]? = some (.cells (numA false (addL A B i).1) 69 (0, 0))) ∧ Aside0 (w'.heap[g2]? = some (.cells (numA true A) 69 (0, 0))) ∧ Aside0 (w'.heap[g3]? = some (.cells (numA true B) 69 (0, 0))) ∧ Aside0 (w'.heap[g4]? = some (.cells (numA false Z18) 69 (0, 0))) ∧ Aside0 (Below w.heap.size w w'))
   case atStart => exact ⟨0, rfl, rfl, ⟨rfl⟩, BK5, BK2, BK3, BK4, HB⟩
   case round =>
    clear BK2 BK3 BK4 BK5 HB c2 c3
    obtain ⟨i, rfl, rfl, HI, CK5, CK2, CK3, CK4, HC⟩ := hrel
    have hi := HI.out
    cases gk with
    | zero =>
     have ei : i = 18 := by omega
     subst ei
     have hO := (addL_dig hA hB 18).1
     obtain ⟨O, EO⟩ : ∃ O, Aside0 ((addL A B 18).1 = O) := ⟨_, ⟨rfl⟩⟩
     rw [EO.out] at hO CK5
     have hl : O.length = 18 := hO.1
     have d1 : decide (((18 : Nat) : Int) < 18) = false := rfl
     have ca := (blk_cell CK2.out 0).trans (numA_get0 true A)
     clear hO hA hB
     have c5 := (blk_cell CK5.out 0).trans (numA_get0 false O)
     have f5 := blk_frozen CK5.out 0
     go_wp2_with (first
      | ((with_reducible refine gate_dst (N := 44) rfl ?_); refine ev_mid ?hw 67 (.tmp 43) rfl g5 1 ?hx _ (ar O) rfl _ (num_range CK5.out) hu67 rfl (ar_info hl) ?_; (case hx => first | (go_simp; done) | rfl); (case hw => first | rfl | (go_simp; done)))
      | (go_at_call 44; (with_reducible refine (zero.calls O hl _).mono ?_); rintro e w' ⟨rfl, hb⟩; replace CK5 := cB hb CK5; replace CK4 := cB hb CK4; replace HC := Aside0.mk (below_step (HC.out) hb); clear hb; have c5 := (blk_cell CK5.out 0).trans (numA_get0 false O); have f5 := blk_frozen CK5.out 0)
      | ((with_reducible refine gate_dst (N := 49) rfl ?_); refine wpList_load_row rfl 69 (.tmp 5) rfl g5 ?hx 69 (numA (!(O == Z18)) O) (0, 0) _ (blk_put CK5.out 0 _ (numA_neg false (!(O == Z18)) O)) hu69 rfl (num_info hl) ?_; (case hx => first | (go_simp; done) | rfl))
      | ((with_reducible refine gate_store2 (t := 69) (x := .tmp 4) (y := .tmp 49) rfl ?_); refine ev_row rfl 69 (.tmp 4) (.tmp 49) rfl rfl g4 (numA (!(O == Z18)) O) ?hx ?hy 69 (numA false Z18) (blk_far CK4.out (by exact N45.out) _) (num_info hl) ((numA_size rfl).trans (numA_size hl).symm) (numA_one _ _) (below_set HC.out GE5.out) GE4.out ?_; (case hx => first | (go_simp; done) | rfl); (case hy => first | (go_simp; done) | rfl); intro w7 hbox hb hk; replace CK4 := Aside0.mk hbox; replace HC := Aside0.mk hb; clear hbox hb hk))
     (try simp only [Exit.inBlock, Exit.then])
     refine bodyPost_ret (results_cell_row rfl _ _ g4 69 (numA (!(O == Z18)) O) (0, 0) _ rfl CK4.out Try.underlying69 rfl (by exact num_info hl)) rfl ?_
     refine ⟨?_, HC.out⟩
     first | (rw [EO.out]; done) | (simp only [EO.out]; rfl)
    | succ gj =>
     have d1 : decide ((i : Int) < 18) = true := decide_eq_true (by omega)
     have i0 : (0 : Int) ≤ i := by omega
     have i1 : (i : Int) < 18 := by omega
     have mer : i + 1 + gj = 18 := by omega
     obtain ⟨hO, hc0, hc1⟩ := addL_dig hA hB i
     have AE := Aside0.mk (show addL A B (i + 1) = ((addL A B i).1.set i ((A.getD i 0 + B.getD i 0 + (addL A B i).2) % 65536), (A.getD i 0 + B.getD i 0 + (addL A B i).2) / 65536) from rfl)
     have co := (blk_cell CK5.out (1 + i)).trans (numA_get (b := false) (by rw [hO.1]; omega))
     have fo := blk_frozen CK5.out (1 + i)
     have ca := (blk_cell CK2.out (1 + i)).trans (numA_get (b := true) (by rw [hA.1]; omega : i < A.length))
     have cb := (blk_cell CK3.out (1 + i)).trans (numA_get (b := true) (by rw [hB.1]; omega : i < B.length))
     have p := hA.2 i
     have q := hB.2 i
     obtain ⟨c, EC⟩ : ∃ c, (addL A B i).2 = c := ⟨_, rfl⟩
     rw [EC] at hc0 hc1 AE ⊢
     clear EC
     generalize A.getD i 0 = x at ca p AE
     generalize B.getD i 0 = y at cb q AE
     obtain ⟨O, EO⟩ : ∃ O, (addL A B i).1 = O := ⟨_, rfl⟩
     rw [EO] at co CK5 AE hO
     clear EO hO hA hB
     obtain ⟨e1, e2, e3, e4, e5, e6⟩ := add_facts p q ⟨hc0, hc1⟩
     clear p q hc0 hc1
     go_wp2
     go_quiet (fail)
     go_wp2
     go_roundg gj
     case measure => exact Nat.lt_succ_self _
     case rel =>
      refine ⟨i + 1, by simp, ?_, ⟨mer⟩, ⟨?_⟩, ⟨?_⟩, ⟨?_⟩, ⟨?_⟩, ⟨?_⟩⟩
      · exact congrArg (Value.int .i64) (e6.trans (congrArg Prod.snd AE.out).symm)
      · refine blk_put (w := wr.drewN nq) CK5.out (1 + i) _ ?_
        rw [AE.out]
        exact numA_set _ _ _ _
      · exact blk_far (w := wr.drewN nq) CK2.out (by exact N25.out) _
      · exact blk_far (w := wr.drewN nq) CK3.out (by exact N35.out) _
      · exact blk_far (w := wr.drewN nq) CK4.out (by exact N45.out) _
      · refine below_set ?_ GE5.out
        repeat (first | exact HC.out | apply pw_below_drewN | apply below_drew1)
set_option maxHeartbeats 2000000 in
set_option maxRecDepth 100000 in
theorem plus_diff.calls (a : Bool) (A B : List Int) (hA : Dig A) (hB : Dig B) (w : World) :
    Calls Try.prog 45 #[.agg (numA a A), .agg (numA (!a) B)] w fun e w' => e = .returned (.agg (if cmpD A B 18 < 0 then numA (!a && !((subL B A 18).1 == Z18)) (subL B A 18).1 else numA (a && !((subL A B 18).1 == Z18)) (subL A B 18).1)) ∧ Below w.heap.size w w' := by
 have hu67 := Try.underlying67
 have hu69 := Try.underlying69
 have hlA : A.length = 18 := hA.1
 have hlB : B.length = 18 := hB.1
 have HB := Aside0.mk (Below.refl w.heap.size w)
 have CD := fun w => cmpDigits.calls A B hlA hlB w
 by_cases hc : cmpD A B 18 < 0
 · simp only [if_pos hc]
   have HC : decide (cmpD A B 18 < 0) = true := decide_eq_true hc
   generalize cmpD A B 18 = c at CD HC
   clear hc
   go_enter Try.func45, Try.ntmps45
   cases a
   · skip
     go_wp2_with (first
      | ((with_reducible refine gate_dst (N := 2) rfl ?_); refine box_event ?hg (N := 2) ?hd (cs := numA false A) (t := 69) ?hr ?_; (case hd => rfl); (case hg => rfl); (case hr => first | (go_simp; done) | (go_simp; rfl)); intro g2 hg w3 hbox hb; have BK2 := Aside0.mk (hbox); have GE2 := Aside0.mk (bG hg (HB.out)); replace HB := Aside0.mk (below_step (HB.out) hb); clear hb hbox hg)
      | ((with_reducible refine gate_dst (N := 3) rfl ?_); refine box_event ?hg (N := 3) ?hd (cs := numA true B) (t := 69) ?hr ?_; (case hd => rfl); (case hg => rfl); (case hr => first | (go_simp; done) | (go_simp; rfl)); intro g3 hg w4 hbox hb; have BK3 := Aside0.mk (hbox); have GE3 := Aside0.mk (bG hg (HB.out)); have N23 := cN hg BK2; have N32 := cM hg BK2; replace HB := Aside0.mk (below_step (HB.out) hb); replace BK2 := cB hb BK2; clear hb hbox hg)
      | ((with_reducible refine gate_dst (N := 4) rfl ?_); refine box_event ?hg (N := 4) ?hd (cs := numA false Z18) (t := 69) ?hr ?_; (case hd => rfl); (case hg => rfl); (case hr => first | (go_simp; done) | (go_simp; rfl)); intro g4 hg w6 hbox hb; have BK4 := Aside0.mk (hbox); have GE4 := Aside0.mk (bG hg (HB.out)); have N24 := cN hg BK2; have N34 := cN hg BK3; have N42 := cM hg BK2; have N43 := cM hg BK3; replace HB := Aside0.mk (below_step (HB.out) hb); replace BK2 := cB hb BK2; replace BK3 := cB hb BK3; clear hb hbox hg)
      | ((with_reducible refine gate_dst (N := 5) rfl ?_); refine box_event ?hg (N := 5) ?hd (cs := numA false Z18) (t := 69) ?hr ?_; (case hd => rfl); (case hg => rfl); (case hr => first | (go_simp; done) | (go_simp; rfl)); intro g5 hg w8 hbox hb; have BK5 := Aside0.mk (hbox); have GE5 := Aside0.mk (bG hg (HB.out)); have N25 := cN hg BK2; have N35 := cN hg BK3; have N45 := cN hg BK4; replace HB := Aside0.mk (below_step (HB.out) hb); replace BK2 := cB hb BK2; replace BK3 := cB hb BK3; replace BK4 := cB hb BK4; clear hb hbox hg)
      | ((with_reducible refine gate_store2 (t := 69) (x := .tmp 5) (y := .tmp 12) rfl ?_); refine ev_row rfl 69 (.tmp 5) (.tmp 12) rfl rfl g5 (numA false Z18) ?hx ?hy 69 (numA false Z18) BK5.out (num_info rfl) rfl (numA_one _ _) HB.out GE5.out ?_; (case hx => first | (go_simp; done) | rfl); (case hy => first | (go_simp; done) | rfl | (go_simp; rfl)); intro w5 hbox hb hk; replace BK5 := Aside0.mk hbox; replace HB := Aside0.mk hb; replace BK2 := Aside0.mk ((hk _ N25.out).trans BK2.out); replace BK3 := Aside0.mk ((hk _ N35.out).trans BK3.out); replace BK4 := Aside0.mk ((hk _ N45.out).trans BK4.out); clear hbox hb hk; have c2 := (blk_cell BK2.out 0).trans (numA_get0 false A); have c3 := (blk_cell BK3.out 0).trans (numA_get0 true B))
      | ((with_reducible refine gate_dst (N := 51) rfl ?_); refine ev_mid ?hw 67 (.tmp 50) rfl g2 1 ?hx _ (ar A) rfl _ (num_range BK2.out) hu67 rfl (ar_info hlA) ?_; (case hx => first | (go_simp; done) | rfl); (case hw => first | rfl | (go_simp; done)))
      | ((with_reducible refine gate_dst (N := 53) rfl ?_); refine ev_mid ?hw 67 (.tmp 52) rfl g3 1 ?hx _ (ar B) rfl _ (num_range BK3.out) hu67 rfl (ar_info hlB) ?_; (case hx => first | (go_simp; done) | rfl); (case hw => first | rfl | (go_simp; done)))
      | (go_at_call 53; (with_reducible refine (CD _).mono ?_); rintro e w9 ⟨rfl, hb⟩; replace BK2 := cB hb BK2; replace BK3 := cB hb BK3; replace BK4 := cB hb BK4; replace BK5 := cB hb BK5; replace HB := Aside0.mk (below_step (HB.out) hb); clear hb)
      | ((with_reducible refine gate_dst (N := 56) rfl ?_); refine wpList_load_row rfl 69 (.tmp 3) rfl g3 ?hx 69 (numA true B) (0, 0) _ BK3.out hu69 rfl (num_info hlB) ?_; (case hx => first | (go_simp; done) | rfl))
      | ((with_reducible refine gate_dst (N := 57) rfl ?_); refine wpList_load_row rfl 69 (.tmp 2) rfl g2 ?hx 69 (numA false A) (0, 0) _ BK2.out hu69 rfl (num_info hlA) ?_; (case hx => first | (go_simp; done) | rfl))
      | ((with_reducible refine gate_store2 (t := 69) (x := .tmp 2) (y := .tmp 56) rfl ?_); refine ev_row rfl 69 (.tmp 2) (.tmp 56) rfl rfl g2 (numA true B) ?hx ?hy 69 (numA false A) BK2.out (num_info hlB) ((numA_size hlA).trans (numA_size hlB).symm) (numA_one _ _) HB.out GE2.out ?_; (case hx => first | (go_simp; done) | rfl); (case hy => first | (go_simp; done) | rfl); intro w10 hbox hb hk; replace BK2 := Aside0.mk hbox; replace HB := Aside0.mk hb; replace BK3 := Aside0.mk ((hk _ (N32.out)).trans BK3.out); replace BK4 := Aside0.mk ((hk _ (N42.out)).trans BK4.out); replace BK5 := Aside0.mk ((hk _ (fun h => N25.out h.symm)).trans BK5.out); clear hbox hb hk)
      | ((with_reducible refine gate_store2 (t := 69) (x := .tmp 3) (y := .tmp 57) rfl ?_); refine ev_row rfl 69 (.tmp 3) (.tmp 57) rfl rfl g3 (numA false A) ?hx ?hy 69 (numA true B) BK3.out (num_info hlA) ((numA_size hlB).trans (numA_size hlA).symm) (numA_one _ _) HB.out GE3.out ?_; (case hx => first | (go_simp; done) | rfl); (case hy => first | (go_simp; done) | rfl); intro w10 hbox hb hk; replace BK3 := Aside0.mk hbox; replace HB := Aside0.mk hb; replace BK2 := Aside0.mk ((hk _ (N23.out)).trans BK2.out); replace BK4 := Aside0.mk ((hk _ (N43.out)).trans BK4.out); replace BK5 := Aside0.mk ((hk _ (fun h => N35.out h.symm)).trans BK5.out); clear hbox hb hk))
     go_loopg [9, 10, 11] 18 (fun kq v9 v10 v11 w' => ∃ (i : Nat), v10 = .int .i64 i ∧ v9 = .int .i64 (subL B A i).2 ∧ Aside0 (i + kq = 18) ∧ Aside0 (w'.heap[g5]? = some (.cells (numA false (subL B A i).1) 69 (0, 0))) ∧ Aside0 (w'.heap[g2]? = some (.cells (numA true B) 69 (0, 0))) ∧ Aside0 (w'.heap[g3]? = some (.cells (numA false A) 69 (0, 0))) ∧ Aside0 (w'.heap[g4]? = some (.cells (numA false Z18) 69 (0, 0))) ∧ Aside0 (Below w.heap.size w w'))
     case atStart => exact ⟨0, rfl, rfl, ⟨rfl⟩, BK5, BK2, BK3, BK4, HB⟩
     case round =>
      clear BK2 BK3 BK4 BK5 HB c2 c3 CD HC
      obtain ⟨i, rfl, rfl, HI, CK5, CK2, CK3, CK4, HC⟩ := hrel
      have hi := HI.out
      cases gk with
      | zero =>
       have ei : i = 18 := by omega
       subst ei
       have hO := (subL_dig hB hA 18).1
       obtain ⟨O, EO⟩ : ∃ O, Aside0 ((subL B A 18).1 = O) := ⟨_, ⟨rfl⟩⟩
       rw [EO.out] at hO CK5
       have hl : O.length = 18 := hO.1
       have d1 : decide (((18 : Nat) : Int) < 18) = false := rfl
       have ca := (blk_cell CK2.out 0).trans (numA_get0 true B)
       clear hO hA hB
       have c5 := (blk_cell CK5.out 0).trans (numA_get0 false O)
       have f5 := blk_frozen CK5.out 0
       go_wp2_with (first
        | ((with_reducible refine gate_dst (N := 85) rfl ?_); refine ev_mid ?hw 67 (.tmp 84) rfl g5 1 ?hx _ (ar O) rfl _ (num_range CK5.out) hu67 rfl (ar_info hl) ?_; (case hx => first | (go_simp; done) | rfl); (case hw => first | rfl | (go_simp; done)))
        | (go_at_call 44; (with_reducible refine (zero.calls O hl _).mono ?_); rintro e w' ⟨rfl, hb⟩; replace CK5 := cB hb CK5; replace CK4 := cB hb CK4; replace HC := Aside0.mk (below_step (HC.out) hb); clear hb; have c5 := (blk_cell CK5.out 0).trans (numA_get0 false O); have f5 := blk_frozen CK5.out 0)
        | ((with_reducible refine gate_dst (N := 90) rfl ?_); refine wpList_load_row rfl 69 (.tmp 5) rfl g5 ?hx 69 (numA (!(O == Z18)) O) (0, 0) _ (blk_put CK5.out 0 _ (numA_neg false (!(O == Z18)) O)) hu69 rfl (num_info hl) ?_; (case hx => first | (go_simp; done) | rfl))
        | ((with_reducible refine gate_store2 (t := 69) (x := .tmp 4) (y := .tmp 90) rfl ?_); refine ev_row rfl 69 (.tmp 4) (.tmp 90) rfl rfl g4 (numA (!(O == Z18)) O) ?hx ?hy 69 (numA false Z18) (blk_far CK4.out (by exact N45.out) _) (num_info hl) ((numA_size rfl).trans (numA_size hl).symm) (numA_one _ _) (below_set HC.out GE5.out) GE4.out ?_; (case hx => first | (go_simp; done) | rfl); (case hy => first | (go_simp; done) | rfl); intro w7 hbox hb hk; replace CK4 := Aside0.mk hbox; replace HC := Aside0.mk hb; clear hbox hb hk))
       (try simp only [Exit.inBlock, Exit.then])
       refine bodyPost_ret (results_cell_row rfl _ _ g4 69 (numA (!(O == Z18)) O) (0, 0) _ rfl CK4.out Try.underlying69 rfl (by exact num_info hl)) rfl ?_
       refine ⟨?_, HC.out⟩
       first | (rw [EO.out]; done) | (simp only [EO.out]; rfl)
      | succ gj =>
       have d1 : decide ((i : Int) < 18) = true := decide_eq_true (by omega)
       have i0 : (0 : Int) ≤ i := by omega
       have i1 : (i : Int) < 18 := by omega
       have mer : i + 1 + gj = 18 := by omega
       obtain ⟨hO, hc0, hc1⟩ := subL_dig hB hA i
       have AE := Aside0.mk (show subL B A (i + 1) = ((subL B A i).1.set i (if B.getD i 0 - A.getD i 0 - (subL B A i).2 < 0 then B.getD i 0 - A.getD i 0 - (subL B A i).2 + 65536 else B.getD i 0 - A.getD i 0 - (subL B A i).2), if B.getD i 0 - A.getD i 0 - (subL B A i).2 < 0 then 1 else 0) from rfl)
       have co := (blk_cell CK5.out (1 + i)).trans (numA_get (b := false) (by rw [hO.1]; omega))
       have fo := blk_frozen CK5.out (1 + i)
       have ca := (blk_cell CK2.out (1 + i)).trans (numA_get (b := true) (by rw [hB.1]; omega : i < B.length))
       have cb := (blk_cell CK3.out (1 + i)).trans (numA_get (b := false) (by rw [hA.1]; omega : i < A.length))
       have p := hB.2 i
       have q := hA.2 i
       obtain ⟨c, EC⟩ : ∃ c, (subL B A i).2 = c := ⟨_, rfl⟩
       rw [EC] at hc0 hc1 AE ⊢
       clear EC
       generalize B.getD i 0 = x at ca p AE
       generalize A.getD i 0 = y at cb q AE
       obtain ⟨O, EO⟩ : ∃ O, (subL B A i).1 = O := ⟨_, rfl⟩
       rw [EO] at co CK5 AE hO
       clear EO hO hA hB
       have e1 : wrap64 (x - y) = x - y := by unfold wrap64; omega
       have e2 : wrap64 (x - y - c) = x - y - c := by unfold wrap64; omega
       by_cases s0 : x - y - c < 0
       · have e3 : wrap64 (x - y - c + 65536) = x - y - c + 65536 := by unfold wrap64; omega
         have d2 : decide (x - y - c < 0) = true := decide_eq_true s0
         have AE' := Aside0.mk (AE.out.trans (by rw [if_pos s0, if_pos s0]))
         clear p q hc0 hc1 AE
         go_wp2
         go_quiet (fail)
         go_wp2
         go_roundg gj
         case measure => exact Nat.lt_succ_self _
         case rel =>
          refine ⟨i + 1, by simp, ?_, ⟨mer⟩, ⟨?_⟩, ⟨?_⟩, ⟨?_⟩, ⟨?_⟩, ⟨?_⟩⟩
          · exact congrArg (Value.int .i64) (congrArg Prod.snd AE'.out).symm
          · refine blk_put (w := wr.drewN nq) CK5.out (1 + i) _ ?_
            rw [AE'.out]
            exact numA_set _ _ _ _
          · exact blk_far (w := wr.drewN nq) CK2.out (by exact N25.out) _
          · exact blk_far (w := wr.drewN nq) CK3.out (by exact N35.out) _
          · exact blk_far (w := wr.drewN nq) CK4.out (by exact N45.out) _
          · refine below_set ?_ GE5.out
            repeat (first | exact HC.out | apply pw_below_drewN | apply below_drew1)
       · have d2 : decide (x - y - c < 0) = false := decide_eq_false s0
         have AE' := Aside0.mk (AE.out.trans (by rw [if_neg s0, if_neg s0]))
         clear p q hc0 hc1 AE
         go_wp2
         go_quiet (fail)
         go_wp2
         go_roundg gj
         case measure => exact Nat.lt_succ_self _
         case rel =>
          refine ⟨i + 1, by simp, ?_, ⟨mer⟩, ⟨?_⟩, ⟨?_⟩, ⟨?_⟩, ⟨?_⟩, ⟨?_⟩⟩
          · exact congrArg (Value.int .i64) (congrArg Prod.snd AE'.out).symm
          · refine blk_put (w := wr.drewN nq) CK5.out (1 + i) _ ?_
            rw [AE'.out]
            exact numA_set _ _ _ _
          · exact blk_far (w := wr.drewN nq) CK2.out (by exact N25.out) _
          · exact blk_far (w := wr.drewN nq) CK3.out (by exact N35.out) _
          · exact blk_far (w := wr.drewN nq) CK4.out (by exact N45.out) _
          · refine below_set ?_ GE5.out
            repeat (first | exact HC.out | apply pw_below_drewN | apply below_drew1)
   · skip
     go_wp2_with (first
      | ((with_reducible refine gate_dst (N := 2) rfl ?_); refine box_event ?hg (N := 2) ?hd (cs := numA true A) (t := 69) ?hr ?_; (case hd => rfl); (case hg => rfl); (case hr => first | (go_simp; done) | (go_simp; rfl)); intro g2 hg w3 hbox hb; have BK2 := Aside0.mk (hbox); have GE2 := Aside0.mk (bG hg (HB.out)); replace HB := Aside0.mk (below_step (HB.out) hb); clear hb hbox hg)
      | ((with_reducible refine gate_dst (N := 3) rfl ?_); refine box_event ?hg (N := 3) ?hd (cs := numA false B) (t := 69) ?hr ?_; (case hd => rfl); (case hg => rfl); (case hr => first | (go_simp; done) | (go_simp; rfl)); intro g3 hg w4 hbox hb; have BK3 := Aside0.mk (hbox); have GE3 := Aside0.mk (bG hg (HB.out)); have N23 := cN hg BK2; have N32 := cM hg BK2; replace HB := Aside0.mk (below_step (HB.out) hb); replace BK2 := cB hb BK2; clear hb hbox hg)
      | ((with_reducible refine gate_dst (N := 4) rfl ?_); refine box_event ?hg (N := 4) ?hd (cs := numA false Z18) (t := 69) ?hr ?_; (case hd => rfl); (case hg => rfl); (case hr => first | (go_simp; done) | (go_simp; rfl)); intro g4 hg w6 hbox hb; have BK4 := Aside0.mk (hbox); have GE4 := Aside0.mk (bG hg (HB.out)); have N24 := cN hg BK2; have N34 := cN hg BK3; have N42 := cM hg BK2; have N43 := cM hg BK3; replace HB := Aside0.mk (below_step (HB.out) hb); replace BK2 := cB hb BK2; replace BK3 := cB hb BK3; clear hb hbox hg)
      | ((with_reducible refine gate_dst (N := 5) rfl ?_); refine box_event ?hg (N := 5) ?hd (cs := numA false Z18) (t := 69) ?hr ?_; (case hd => rfl); (case hg => rfl); (case hr => first | (go_simp; done) | (go_simp; rfl)); intro g5 hg w8 hbox hb; have BK5 := Aside0.mk (hbox); have GE5 := Aside0.mk (bG hg (HB.out)); have N25 := cN hg BK2; have N35 := cN hg BK3; have N45 := cN hg BK4; replace HB := Aside0.mk (below_step (HB.out) hb); replace BK2 := cB hb BK2; replace BK3 := cB hb BK3; replace BK4 := cB hb BK4; clear hb hbox hg)
      | ((with_reducible refine gate_store2 (t := 69) (x := .tmp 5) (y := .tmp 12) rfl ?_); refine ev_row rfl 69 (.tmp 5) (.tmp 12) rfl rfl g5 (numA false Z18) ?hx ?hy 69 (numA false Z18) BK5.out (num_info rfl) rfl (numA_one _ _) HB.out GE5.out ?_; (case hx => first | (go_simp; done) | rfl); (case hy => first | (go_simp; done) | rfl | (go_simp; rfl)); intro w5 hbox hb hk; replace BK5 := Aside0.mk hbox; replace HB := Aside0.mk hb; replace BK2 := Aside0.mk ((hk _ N25.out).trans BK2.out); replace BK3 := Aside0.mk ((hk _ N35.out).trans BK3.out); replace BK4 := Aside0.mk ((hk _ N45.out).trans BK4.out); clear hbox hb hk; have c2 := (blk_cell BK2.out 0).trans (numA_get0 true A); have c3 := (blk_cell BK3.out 0).trans (numA_get0 false B))
      | ((with_reducible refine gate_dst (N := 51) rfl ?_); refine ev_mid ?hw 67 (.tmp 50) rfl g2 1 ?hx _ (ar A) rfl _ (num_range BK2.out) hu67 rfl (ar_info hlA) ?_; (case hx => first | (go_simp; done) | rfl); (case hw => first | rfl | (go_simp; done)))
      | ((with_reducible refine gate_dst (N := 53) rfl ?_); refine ev_mid ?hw 67 (.tmp 52) rfl g3 1 ?hx _ (ar B) rfl _ (num_range BK3.out) hu67 rfl (ar_info hlB) ?_; (case hx => first | (go_simp; done) | rfl); (case hw => first | rfl | (go_simp; done)))
      | (go_at_call 53; (with_reducible refine (CD _).mono ?_); rintro e w9 ⟨rfl, hb⟩; replace BK2 := cB hb BK2; replace BK3 := cB hb BK3; replace BK4 := cB hb BK4; replace BK5 := cB hb BK5; replace HB := Aside0.mk (below_step (HB.out) hb); clear hb)
      | ((with_reducible refine gate_dst (N := 56) rfl ?_); refine wpList_load_row rfl 69 (.tmp 3) rfl g3 ?hx 69 (numA false B) (0, 0) _ BK3.out hu69 rfl (num_info hlB) ?_; (case hx => first | (go_simp; done) | rfl))
      | ((with_reducible refine gate_dst (N := 57) rfl ?_); refine wpList_load_row rfl 69 (.tmp 2) rfl g2 ?hx 69 (numA true A) (0, 0) _ BK2.out hu69 rfl (num_info hlA) ?_; (case hx => first | (go_simp; done) | rfl))
      | ((with_reducible refine gate_store2 (t := 69) (x := .tmp 2) (y := .tmp 56) rfl ?_); refine ev_row rfl 69 (.tmp 2) (.tmp 56) rfl rfl g2 (numA false B) ?hx ?hy 69 (numA true A) BK2.out (num_info hlB) ((numA_size hlA).trans (numA_size hlB).symm) (numA_one _ _) HB.out GE2.out ?_; (case hx => first | (go_simp; done) | rfl); (case hy => first | (go_simp; done) | rfl); intro w10 hbox hb hk; replace BK2 := Aside0.mk hbox; replace HB := Aside0.mk hb; replace BK3 := Aside0.mk ((hk _ (N32.out)).trans BK3.out); replace BK4 := Aside0.mk ((hk _ (N42.out)).trans BK4.out); replace BK5 := Aside0.mk ((hk _ (fun h => N25.out h.symm)).trans BK5.out); clear hbox hb hk)
      | ((with_reducible refine gate_store2 (t := 69) (x := .tmp 3) (y := .tmp 57) rfl ?_); refine ev_row rfl 69 (.tmp 3) (.tmp 57) rfl rfl g3 (numA true A) ?hx ?hy 69 (numA false B) BK3.out (num_info hlA) ((numA_size hlB).trans (numA_size hlA).symm) (numA_one _ _) HB.out GE3.out ?_; (case hx => first | (go_simp; done) | rfl); (case hy => first | (go_simp; done) | rfl); intro w10 hbox hb hk; replace BK3 := Aside0.mk hbox; replace HB := Aside0.mk hb; replace BK2 := Aside0.mk ((hk _ (N23.out)).trans BK2.out); replace BK4 := Aside0.mk ((hk _ (N43.out)).trans BK4.out); replace BK5 := Aside0.mk ((hk _ (fun h => N35.out h.symm)).trans BK5.out); clear hbox hb hk))
     go_loopg [9, 10, 11] 18 (fun kq v9 v10 v11 w' => ∃ (i : Nat), v10 = .int .i64 i ∧ v9 = .int .i64 (subL B A i).2 ∧ Aside0 (i + kq = 18) ∧ Aside0 (w'.heap[g5]? = some (.cells (numA false (subL B A i).1) 69 (0, 0))) ∧ Aside0 (w'.heap[g2]? = some (.cells (numA false B) 69 (0, 0))) ∧ Aside0 (w'.heap[g3]? = some (.cells (numA true A) 69 (0, 0))) ∧ Aside0 (w'.heap[g4]? = some (.cells (numA false Z18) 69 (0, 0))) ∧ Aside0 (Below w.heap.size w w'))
     case atStart => exact ⟨0, rfl, rfl, ⟨rfl⟩, BK5, BK2, BK3, BK4, HB⟩
     case round =>
      clear BK2 BK3 BK4 BK5 HB c2 c3 CD HC
      obtain ⟨i, rfl, rfl, HI, CK5, CK2, CK3, CK4, HC⟩ := hrel
      have hi := HI.out
      cases gk with
      | zero =>
       have ei : i = 18 := by omega
       subst ei
       have hO := (subL_dig hB hA 18).1
       obtain ⟨O, EO⟩ : ∃ O, Aside0 ((subL B A 18).1 = O) := ⟨_, ⟨rfl⟩⟩
       rw [EO.out] at hO CK5
       have hl : O.length = 18 := hO.1
       have d1 : decide (((18 : Nat) : Int) < 18) = false := rfl
       have ca := (blk_cell CK2.out 0).trans (numA_get0 false B)
       clear hO hA hB
       have c5 := (blk_cell CK5.out 0).trans (numA_get0 false O)
       have f5 := blk_frozen CK5.out 0
       go_wp2_with (first
        | ((with_reducible refine gate_dst (N := 90) rfl ?_); refine wpList_load_row rfl 69 (.tmp 5) rfl g5 ?hx 69 (numA (false) O) (0, 0) _ (blk_put CK5.out 0 _ (numA_neg false (false) O)) hu69 rfl (num_info hl) ?_; (case hx => first | (go_simp; done) | rfl))
        | ((with_reducible refine gate_store2 (t := 69) (x := .tmp 4) (y := .tmp 90) rfl ?_); refine ev_row rfl 69 (.tmp 4) (.tmp 90) rfl rfl g4 (numA (false) O) ?hx ?hy 69 (numA false Z18) (blk_far CK4.out (by exact N45.out) _) (num_info hl) ((numA_size rfl).trans (numA_size hl).symm) (numA_one _ _) (below_set HC.out GE5.out) GE4.out ?_; (case hx => first | (go_simp; done) | rfl); (case hy => first | (go_simp; done) | rfl); intro w7 hbox hb hk; replace CK4 := Aside0.mk hbox; replace HC := Aside0.mk hb; clear hbox hb hk))
       (try simp only [Exit.inBlock, Exit.then])
       refine bodyPost_ret (results_cell_row rfl _ _ g4 69 (numA (false) O) (0, 0) _ rfl CK4.out Try.underlying69 rfl (by exact num_info hl)) rfl ?_
       refine ⟨?_, HC.out⟩
       first | (rw [EO.out]; done) | (simp only [EO.out]; rfl)
      | succ gj =>
       have d1 : decide ((i : Int) < 18) = true := decide_eq_true (by omega)
       have i0 : (0 : Int) ≤ i := by omega
       have i1 : (i : Int) < 18 := by omega
       have mer : i + 1 + gj = 18 := by omega
       obtain ⟨hO, hc0, hc1⟩ := subL_dig hB hA i
       have AE := Aside0.mk (show subL B A (i + 1) = ((subL B A i).1.set i (if B.getD i 0 - A.getD i 0 - (subL B A i).2 < 0 then B.getD i 0 - A.getD i 0 - (subL B A i).2 + 65536 else B.getD i 0 - A.getD i 0 - (subL B A i).2), if B.getD i 0 - A.getD i 0 - (subL B A i).2 < 0 then 1 else 0) from rfl)
       have co := (blk_cell CK5.out (1 + i)).trans (numA_get (b := false) (by rw [hO.1]; omega))
       have fo := blk_frozen CK5.out (1 + i)
       have ca := (blk_cell CK2.out (1 + i)).trans (numA_get (b := false) (by rw [hB.1]; omega : i < B.length))
       have cb := (blk_cell CK3.out (1 + i)).trans (numA_get (b := true) (by rw [hA.1]; omega : i < A.length))
       have p := hB.2 i
       have q := hA.2 i
       obtain ⟨c, EC⟩ : ∃ c, (subL B A i).2 = c := ⟨_, rfl⟩
       rw [EC] at hc0 hc1 AE ⊢
       clear EC
       generalize B.getD i 0 = x at ca p AE
       generalize A.getD i 0 = y at cb q AE
       obtain ⟨O, EO⟩ : ∃ O, (subL B A i).1 = O := ⟨_, rfl⟩
       rw [EO] at co CK5 AE hO
       clear EO hO hA hB
       have e1 : wrap64 (x - y) = x - y := by unfold wrap64; omega
       have e2 : wrap64 (x - y - c) = x - y - c := by unfold wrap64; omega
       by_cases s0 : x - y - c < 0
       · have e3 : wrap64 (x - y - c + 65536) = x - y - c + 65536 := by unfold wrap64; omega
         have d2 : decide (x - y - c < 0) = true := decide_eq_true s0
         have AE' := Aside0.mk (AE.out.trans (by rw [if_pos s0, if_pos s0]))
         clear p q hc0 hc1 AE
         go_wp2
         go_quiet (fail)
         go_wp2
         go_roundg gj
         case measure => exact Nat.lt_succ_self _
         case rel =>
          refine ⟨i + 1, by simp, ?_, ⟨mer⟩, ⟨?_⟩, ⟨?_⟩, ⟨?_⟩, ⟨?_⟩, ⟨?_⟩⟩
          · exact congrArg (Value.int .i64) (congrArg Prod.snd AE'.out).symm
          · refine blk_put (w := wr.drewN nq) CK5.out (1 + i) _ ?_
            rw [AE'.out]
            exact numA_set _ _ _ _
          · exact blk_far (w := wr.drewN nq) CK2.out (by exact N25.out) _
          · exact blk_far (w := wr.drewN nq) CK3.out (by exact N35.out) _
          · exact blk_far (w := wr.drewN nq) CK4.out (by exact N45.out) _
          · refine below_set ?_ GE5.out
            repeat (first | exact HC.out | apply pw_below_drewN | apply below_drew1)
       · have d2 : decide (x - y - c < 0) = false := decide_eq_false s0
         have AE' := Aside0.mk (AE.out.trans (by rw [if_neg s0, if_neg s0]))
         clear p q hc0 hc1 AE
         go_wp2
         go_quiet (fail)
         go_wp2
         go_roundg gj
         case measure => exact Nat.lt_succ_self _
         case rel =>
          refine ⟨i + 1, by simp, ?_, ⟨mer⟩, ⟨?_⟩, ⟨?_⟩, ⟨?_⟩, ⟨?_⟩, ⟨?_⟩⟩
          · exact congrArg (Value.int .i64) (congrArg Prod.snd AE'.out).symm
          · refine blk_put (w := wr.drewN nq) CK5.out (1 + i) _ ?_
            rw [AE'.out]
            exact numA_set _ _ _ _
          · exact blk_far (w := wr.drewN nq) CK2.out (by exact N25.out) _
          · exact blk_far (w := wr.drewN nq) CK3.out (by exact N35.out) _
          · exact blk_far (w := wr.drewN nq) CK4.out (by exact N45.out) _
          · refine below_set ?_ GE5.out
            repeat (first | exact HC.out | apply pw_below_drewN | apply below_drew1)
 · simp only [if_neg hc]
   have HC : decide (cmpD A B 18 < 0) = false := decide_eq_false hc
   generalize cmpD A B 18 = c at CD HC
   clear hc
   go_enter Try.func45, Try.ntmps45
   cases a
   · skip
     go_wp2_with (first
      | ((with_reducible refine gate_dst (N := 2) rfl ?_); refine box_event ?hg (N := 2) ?hd (cs := numA false A) (t := 69) ?hr ?_; (case hd => rfl); (case hg => rfl); (case hr => first | (go_simp; done) | (go_simp; rfl)); intro g2 hg w3 hbox hb; have BK2 := Aside0.mk (hbox); have GE2 := Aside0.mk (bG hg (HB.out)); replace HB := Aside0.mk (below_step (HB.out) hb); clear hb hbox hg)
      | ((with_reducible refine gate_dst (N := 3) rfl ?_); refine box_event ?hg (N := 3) ?hd (cs := numA true B) (t := 69) ?hr ?_; (case hd => rfl); (case hg => rfl); (case hr => first | (go_simp; done) | (go_simp; rfl)); intro g3 hg w4 hbox hb; have BK3 := Aside0.mk (hbox); have GE3 := Aside0.mk (bG hg (HB.out)); have N23 := cN hg BK2; have N32 := cM hg BK2; replace HB := Aside0.mk (below_step (HB.out) hb); replace BK2 := cB hb BK2; clear hb hbox hg)
      | ((with_reducible refine gate_dst (N := 4) rfl ?_); refine box_event ?hg (N := 4) ?hd (cs := numA false Z18) (t := 69) ?hr ?_; (case hd => rfl); (case hg => rfl); (case hr => first | (go_simp; done) | (go_simp; rfl)); intro g4 hg w6 hbox hb; have BK4 := Aside0.mk (hbox); have GE4 := Aside0.mk (bG hg (HB.out)); have N24 := cN hg BK2; have N34 := cN hg BK3; have N42 := cM hg BK2; have N43 := cM hg BK3; replace HB := Aside0.mk (below_step (HB.out) hb); replace BK2 := cB hb BK2; replace BK3 := cB hb BK3; clear hb hbox hg)
      | ((with_reducible refine gate_dst (N := 5) rfl ?_); refine box_event ?hg (N := 5) ?hd (cs := numA false Z18) (t := 69) ?hr ?_; (case hd => rfl); (case hg => rfl); (case hr => first | (go_simp; done) | (go_simp; rfl)); intro g5 hg w8 hbox hb; have BK5 := Aside0.mk (hbox); have GE5 := Aside0.mk (bG hg (HB.out)); have N25 := cN hg BK2; have N35 := cN hg BK3; have N45 := cN hg BK4; replace HB := Aside0.mk (below_step (HB.out) hb); replace BK2 := cB hb BK2; replace BK3 := cB hb BK3; replace BK4 := cB hb BK4; clear hb hbox hg)
      | ((with_reducible refine gate_store2 (t := 69) (x := .tmp 5) (y := .tmp 12) rfl ?_); refine ev_row rfl 69 (.tmp 5) (.tmp 12) rfl rfl g5 (numA false Z18) ?hx ?hy 69 (numA false Z18) BK5.out (num_info rfl) rfl (numA_one _ _) HB.out GE5.out ?_; (case hx => first | (go_simp; done) | rfl); (case hy => first | (go_simp; done) | rfl | (go_simp; rfl)); intro w5 hbox hb hk; replace BK5 := Aside0.mk hbox; replace HB := Aside0.mk hb; replace BK2 := Aside0.mk ((hk _ N25.out).trans BK2.out); replace BK3 := Aside0.mk ((hk _ N35.out).trans BK3.out); replace BK4 := Aside0.mk ((hk _ N45.out).trans BK4.out); clear hbox hb hk; have c2 := (blk_cell BK2.out 0).trans (numA_get0 false A); have c3 := (blk_cell BK3.out 0).trans (numA_get0 true B))
      | ((with_reducible refine gate_dst (N := 51) rfl ?_); refine ev_mid ?hw 67 (.tmp 50) rfl g2 1 ?hx _ (ar A) rfl _ (num_range BK2.out) hu67 rfl (ar_info hlA) ?_; (case hx => first | (go_simp; done) | rfl); (case hw => first | rfl | (go_simp; done)))
      | ((with_reducible refine gate_dst (N := 53) rfl ?_); refine ev_mid ?hw 67 (.tmp 52) rfl g3 1 ?hx _ (ar B) rfl _ (num_range BK3.out) hu67 rfl (ar_info hlB) ?_; (case hx => first | (go_simp; done) | rfl); (case hw => first | rfl | (go_simp; done)))
      | (go_at_call 53; (with_reducible refine (CD _).mono ?_); rintro e w9 ⟨rfl, hb⟩; replace BK2 := cB hb BK2; replace BK3 := cB hb BK3; replace BK4 := cB hb BK4; replace BK5 := cB hb BK5; replace HB := Aside0.mk (below_step (HB.out) hb); clear hb))
     go_loopg [9, 10, 11] 18 (fun kq v9 v10 v11 w' => ∃ (i : Nat), v10 = .int .i64 i ∧ v9 = .int .i64 (subL A B i).2 ∧ Aside0 (i + kq = 18) ∧ Aside0 (w'.heap[g5]? = some (.cells (numA false (subL A B i).1) 69 (0, 0))) ∧ Aside0 (w'.heap[g2]? = some (.cells (numA false A) 69 (0, 0))) ∧ Aside0 (w'.heap[g3]? = some (.cells (numA true B) 69 (0, 0))) ∧ Aside0 (w'.heap[g4]? = some (.cells (numA false Z18) 69 (0, 0))) ∧ Aside0 (Below w.heap.size w w'))
     case atStart => exact ⟨0, rfl, rfl, ⟨rfl⟩, BK5, BK2, BK3, BK4, HB⟩
     case round =>
      clear BK2 BK3 BK4 BK5 HB c2 c3 CD HC
      obtain ⟨i, rfl, rfl, HI, CK5, CK2, CK3, CK4, HC⟩ := hrel
      have hi := HI.out
      cases gk with
      | zero =>
       have ei : i = 18 := by omega
       subst ei
       have hO := (subL_dig hA hB 18).1
       obtain ⟨O, EO⟩ : ∃ O, Aside0 ((subL A B 18).1 = O) := ⟨_, ⟨rfl⟩⟩
       rw [EO.out] at hO CK5
       have hl : O.length = 18 := hO.1
       have d1 : decide (((18 : Nat) : Int) < 18) = false := rfl
       have ca := (blk_cell CK2.out 0).trans (numA_get0 false A)
       clear hO hA hB
       have c5 := (blk_cell CK5.out 0).trans (numA_get0 false O)
       have f5 := blk_frozen CK5.out 0
       go_wp2_with (first
        | ((with_reducible refine gate_dst (N := 90) rfl ?_); refine wpList_load_row rfl 69 (.tmp 5) rfl g5 ?hx 69 (numA (false) O) (0, 0) _ (blk_put CK5.out 0 _ (numA_neg false (false) O)) hu69 rfl (num_info hl) ?_; (case hx => first | (go_simp; done) | rfl))
        | ((with_reducible refine gate_store2 (t := 69) (x := .tmp 4) (y := .tmp 90) rfl ?_); refine ev_row rfl 69 (.tmp 4) (.tmp 90) rfl rfl g4 (numA (false) O) ?hx ?hy 69 (numA false Z18) (blk_far CK4.out (by exact N45.out) _) (num_info hl) ((numA_size rfl).trans (numA_size hl).symm) (numA_one _ _) (below_set HC.out GE5.out) GE4.out ?_; (case hx => first | (go_simp; done) | rfl); (case hy => first | (go_simp; done) | rfl); intro w7 hbox hb hk; replace CK4 := Aside0.mk hbox; replace HC := Aside0.mk hb; clear hbox hb hk))
       (try simp only [Exit.inBlock, Exit.then])
       refine bodyPost_ret (results_cell_row rfl _ _ g4 69 (numA (false) O) (0, 0) _ rfl CK4.out Try.underlying69 rfl (by exact num_info hl)) rfl ?_
       refine ⟨?_, HC.out⟩
       first | (rw [EO.out]; done) | (simp only [EO.out]; rfl)
      | succ gj =>
       have d1 : decide ((i : Int) < 18) = true := decide_eq_true (by omega)
       have i0 : (0 : Int) ≤ i := by omega
       have i1 : (i : Int) < 18 := by omega
       have mer : i + 1 + gj = 18 := by omega
       obtain ⟨hO, hc0, hc1⟩ := subL_dig hA hB i
       have AE := Aside0.mk (show subL A B (i + 1) = ((subL A B i).1.set i (if A.getD i 0 - B.getD i 0 - (subL A B i).2 < 0 then A.getD i 0 - B.getD i 0 - (subL A B i).2 + 65536 else A.getD i 0 - B.getD i 0 - (subL A B i).2), if A.getD i 0 - B.getD i 0 - (subL A B i).2 < 0 then 1 else 0) from rfl)
       have co := (blk_cell CK5.out (1 + i)).trans (numA_get (b := false) (by rw [hO.1]; omega))
       have fo := blk_frozen CK5.out (1 + i)
       have ca := (blk_cell CK2.out (1 + i)).trans (numA_get (b := false) (by rw [hA.1]; omega : i < A.length))
       have cb := (blk_cell CK3.out (1 + i)).trans (numA_get (b := true) (by rw [hB.1]; omega : i < B.length))
       have p := hA.2 i
       have q := hB.2 i
       obtain ⟨c, EC⟩ : ∃ c, (subL A B i).2 = c := ⟨_, rfl⟩
       rw [EC] at hc0 hc1 AE ⊢
       clear EC
       generalize A.getD i 0 = x at ca p AE
       generalize B.getD i 0 = y at cb q AE
       obtain ⟨O, EO⟩ : ∃ O, (subL A B i).1 = O := ⟨_, rfl⟩
       rw [EO] at co CK5 AE hO
       clear EO hO hA hB
       have e1 : wrap64 (x - y) = x - y := by unfold wrap64; omega
       have e2 : wrap64 (x - y - c) = x - y - c := by unfold wrap64; omega
       by_cases s0 : x - y - c < 0
       · have e3 : wrap64 (x - y - c + 65536) = x - y - c + 65536 := by unfold wrap64; omega
         have d2 : decide (x - y - c < 0) = true := decide_eq_true s0
         have AE' := Aside0.mk (AE.out.trans (by rw [if_pos s0, if_pos s0]))
         clear p q hc0 hc1 AE
         go_wp2
         go_quiet (fail)
         go_wp2
         go_roundg gj
         case measure => exact Nat.lt_succ_self _
         case rel =>
          refine ⟨i + 1, by simp, ?_, ⟨mer⟩, ⟨?_⟩, ⟨?_⟩, ⟨?_⟩, ⟨?_⟩, ⟨?_⟩⟩
          · exact congrArg (Value.int .i64) (congrArg Prod.snd AE'.out).symm
          · refine blk_put (w := wr.drewN nq) CK5.out (1 + i) _ ?_
            rw [AE'.out]
            exact numA_set _ _ _ _
          · exact blk_far (w := wr.drewN nq) CK2.out (by exact N25.out) _
          · exact blk_far (w := wr.drewN nq) CK3.out (by exact N35.out) _
          · exact blk_far (w := wr.drewN nq) CK4.out (by exact N45.out) _
          · refine below_set ?_ GE5.out
            repeat (first | exact HC.out | apply pw_below_drewN | apply below_drew1)
       · have d2 : decide (x - y - c < 0) = false := decide_eq_false s0
         have AE' := Aside0.mk (AE.out.trans (by rw [if_neg s0, if_neg s0]))
         clear p q hc0 hc1 AE
         go_wp2
         go_quiet (fail)
         go_wp2
         go_roundg gj
         case measure => exact Nat.lt_succ_self _
         case rel =>
          refine ⟨i + 1, by simp, ?_, ⟨mer⟩, ⟨?_⟩, ⟨?_⟩, ⟨?_⟩, ⟨?_⟩, ⟨?_⟩⟩
          · exact congrArg (Value.int .i64) (congrArg Prod.snd AE'.out).symm
          · refine blk_put (w := wr.drewN nq) CK5.out (1 + i) _ ?_
            rw [AE'.out]
            exact numA_set _ _ _ _
          · exact blk_far (w := wr.drewN nq) CK2.out (by exact N25.out) _
          · exact blk_far (w := wr.drewN nq) CK3.out (by exact N35.out) _
          · exact blk_far (w := wr.drewN nq) CK4.out (by exact N45.out) _
          · refine below_set ?_ GE5.out
            repeat (first | exact HC.out | apply pw_below_drewN | apply below_drew1)
   · skip
     go_wp2_with (first
      | ((with_reducible refine gate_dst (N := 2) rfl ?_); refine box_event ?hg (N := 2) ?hd (cs := numA true A) (t := 69) ?hr ?_; (case hd => rfl); (case hg => rfl); (case hr => first | (go_simp; done) | (go_simp; rfl)); intro g2 hg w3 hbox hb; have BK2 := Aside0.mk (hbox); have GE2 := Aside0.mk (bG hg (HB.out)); replace HB := Aside0.mk (below_step (HB.out) hb); clear hb hbox hg)
      | ((with_reducible refine gate_dst (N := 3) rfl ?_); refine box_event ?hg (N := 3) ?hd (cs := numA false B) (t := 69) ?hr ?_; (case hd => rfl); (case hg => rfl); (case hr => first | (go_simp; done) | (go_simp; rfl)); intro g3 hg w4 hbox hb; have BK3 := Aside0.mk (hbox); have GE3 := Aside0.mk (bG hg (HB.out)); have N23 := cN hg BK2; have N32 := cM hg BK2; replace HB := Aside0.mk (below_step (HB.out) hb); replace BK2 := cB hb BK2; clear hb hbox hg)
      | ((with_reducible refine gate_dst (N := 4) rfl ?_); refine box_event ?hg (N := 4) ?hd (cs := numA false Z18) (t := 69) ?hr ?_; (case hd => rfl); (case hg => rfl); (case hr => first | (go_simp; done) | (go_simp; rfl)); intro g4 hg w6 hbox hb; have BK4 := Aside0.mk (hbox); have GE4 := Aside0.mk (bG hg (HB.out)); have N24 := cN hg BK2; have N34 := cN hg BK3; have N42 := cM hg BK2; have N43 := cM hg BK3; replace HB := Aside0.mk (below_step (HB.out) hb); replace BK2 := cB hb BK2; replace BK3 := cB hb BK3; clear hb hbox hg)
      | ((with_reducible refine gate_dst (N := 5) rfl ?_); refine box_event ?hg (N := 5) ?hd (cs := numA false Z18) (t := 69) ?hr ?_; (case hd => rfl); (case hg => rfl); (case hr => first | (go_simp; done) | (go_simp; rfl)); intro g5 hg w8 hbox hb; have BK5 := Aside0.mk (hbox); have GE5 := Aside0.mk (bG hg (HB.out)); have N25 := cN hg BK2; have N35 := cN hg BK3; have N45 := cN hg BK4; replace HB := Aside0.mk (below_step (HB.out) hb); replace BK2 := cB hb BK2; replace BK3 := cB hb BK3; replace BK4 := cB hb BK4; clear hb hbox hg)
      | ((with_reducible refine gate_store2 (t := 69) (x := .tmp 5) (y := .tmp 12) rfl ?_); refine ev_row rfl 69 (.tmp 5) (.tmp 12) rfl rfl g5 (numA false Z18) ?hx ?hy 69 (numA false Z18) BK5.out (num_info rfl) rfl (numA_one _ _) HB.out GE5.out ?_; (case hx => first | (go_simp; done) | rfl); (case hy => first | (go_simp; done) | rfl | (go_simp; rfl)); intro w5 hbox hb hk; replace BK5 := Aside0.mk hbox; replace HB := Aside0.mk hb; replace BK2 := Aside0.mk ((hk _ N25.out).trans BK2.out); replace BK3 := Aside0.mk ((hk _ N35.out).trans BK3.out); replace BK4 := Aside0.mk ((hk _ N45.out).trans BK4.out); clear hbox hb hk; have c2 := (blk_cell BK2.out 0).trans (numA_get0 true A); have c3 := (blk_cell BK3.out 0).trans (numA_get0 false B))
      | ((with_reducible refine gate_dst (N := 51) rfl ?_); refine ev_mid ?hw 67 (.tmp 50) rfl g2 1 ?hx _ (ar A) rfl _ (num_range BK2.out) hu67 rfl (ar_info hlA) ?_; (case hx => first | (go_simp; done) | rfl); (case hw => first | rfl | (go_simp; done)))
      | ((with_reducible refine gate_dst (N := 53) rfl ?_); refine ev_mid ?hw 67 (.tmp 52) rfl g3 1 ?hx _ (ar B) rfl _ (num_range BK3.out) hu67 rfl (ar_info hlB) ?_; (case hx => first | (go_simp; done) | rfl); (case hw => first | rfl | (go_simp; done)))
      | (go_at_call 53; (with_reducible refine (CD _).mono ?_); rintro e w9 ⟨rfl, hb⟩; replace BK2 := cB hb BK2; replace BK3 := cB hb BK3; replace BK4 := cB hb BK4; replace BK5 := cB hb BK5; replace HB := Aside0.mk (below_step (HB.out) hb); clear hb))
     go_loopg [9, 10, 11] 18 (fun kq v9 v10 v11 w' => ∃ (i : Nat), v10 = .int .i64 i ∧ v9 = .int .i64 (subL A B i).2 ∧ Aside0 (i + kq = 18) ∧ Aside0 (w'.heap[g5]? = some (.cells (numA false (subL A B i).1) 69 (0, 0))) ∧ Aside0 (w'.heap[g2]? = some (.cells (numA true A) 69 (0, 0))) ∧ Aside0 (w'.heap[g3]? = some (.cells (numA false B) 69 (0, 0))) ∧ Aside0 (w'.heap[g4]? = some (.cells (numA false Z18) 69 (0, 0))) ∧ Aside0 (Below w.heap.size w w'))
     case atStart => exact ⟨0, rfl, rfl, ⟨rfl⟩, BK5, BK2, BK3, BK4, HB⟩
     case round =>
      clear BK2 BK3 BK4 BK5 HB c2 c3 CD HC
      obtain ⟨i, rfl, rfl, HI, CK5, CK2, CK3, CK4, HC⟩ := hrel
      have hi := HI.out
      cases gk with
      | zero =>
       have ei : i = 18 := by omega
       subst ei
       have hO := (subL_dig hA hB 18).1
       obtain ⟨O, EO⟩ : ∃ O, Aside0 ((subL A B 18).1 = O) := ⟨_, ⟨rfl⟩⟩
       rw [EO.out] at hO CK5
       have hl : O.length = 18 := hO.1
       have d1 : decide (((18 : Nat) : Int) < 18) = false := rfl
       have ca := (blk_cell CK2.out 0).trans (numA_get0 true A)
       clear hO hA hB
       have c5 := (blk_cell CK5.out 0).trans (numA_get0 false O)
       have f5 := blk_frozen CK5.out 0
       go_wp2_with (first
        | ((with_reducible refine gate_dst (N := 85) rfl ?_); refine ev_mid ?hw 67 (.tmp 84) rfl g5 1 ?hx _ (ar O) rfl _ (num_range CK5.out) hu67 rfl (ar_info hl) ?_; (case hx => first | (go_simp; done) | rfl); (case hw => first | rfl | (go_simp; done)))
        | (go_at_call 44; (with_reducible refine (zero.calls O hl _).mono ?_); rintro e w' ⟨rfl, hb⟩; replace CK5 := cB hb CK5; replace CK4 := cB hb CK4; replace HC := Aside0.mk (below_step (HC.out) hb); clear hb; have c5 := (blk_cell CK5.out 0).trans (numA_get0 false O); have f5 := blk_frozen CK5.out 0)
        | ((with_reducible refine gate_dst (N := 90) rfl ?_); refine wpList_load_row rfl 69 (.tmp 5) rfl g5 ?hx 69 (numA (!(O == Z18)) O) (0, 0) _ (blk_put CK5.out 0 _ (numA_neg false (!(O == Z18)) O)) hu69 rfl (num_info hl) ?_; (case hx => first | (go_simp; done) | rfl))
        | ((with_reducible refine gate_store2 (t := 69) (x := .tmp 4) (y := .tmp 90) rfl ?_); refine ev_row rfl 69 (.tmp 4) (.tmp 90) rfl rfl g4 (numA (!(O == Z18)) O) ?hx ?hy 69 (numA false Z18) (blk_far CK4.out (by exact N45.out) _) (num_info hl) ((numA_size rfl).trans (numA_size hl).symm) (numA_one _ _) (below_set HC.out GE5.out) GE4.out ?_; (case hx => first | (go_simp; done) | rfl); (case hy => first | (go_simp; done) | rfl); intro w7 hbox hb hk; replace CK4 := Aside0.mk hbox; replace HC := Aside0.mk hb; clear hbox hb hk))
       (try simp only [Exit.inBlock, Exit.then])
       refine bodyPost_ret (results_cell_row rfl _ _ g4 69 (numA (!(O == Z18)) O) (0, 0) _ rfl CK4.out Try.underlying69 rfl (by exact num_info hl)) rfl ?_
       refine ⟨?_, HC.out⟩
       first | (rw [EO.out]; done) | (simp only [EO.out]; rfl)
      | succ gj =>
       have d1 : decide ((i : Int) < 18) = true := decide_eq_true (by omega)
       have i0 : (0 : Int) ≤ i := by omega
       have i1 : (i : Int) < 18 := by omega
       have mer : i + 1 + gj = 18 := by omega
       obtain ⟨hO, hc0, hc1⟩ := subL_dig hA hB i
       have AE := Aside0.mk (show subL A B (i + 1) = ((subL A B i).1.set i (if A.getD i 0 - B.getD i 0 - (subL A B i).2 < 0 then A.getD i 0 - B.getD i 0 - (subL A B i).2 + 65536 else A.getD i 0 - B.getD i 0 - (subL A B i).2), if A.getD i 0 - B.getD i 0 - (subL A B i).2 < 0 then 1 else 0) from rfl)
       have co := (blk_cell CK5.out (1 + i)).trans (numA_get (b := false) (by rw [hO.1]; omega))
       have fo := blk_frozen CK5.out (1 + i)
       have ca := (blk_cell CK2.out (1 + i)).trans (numA_get (b := true) (by rw [hA.1]; omega : i < A.length))
       have cb := (blk_cell CK3.out (1 + i)).trans (numA_get (b := false) (by rw [hB.1]; omega : i < B.length))
       have p := hA.2 i
       have q := hB.2 i
       obtain ⟨c, EC⟩ : ∃ c, (subL A B i).2 = c := ⟨_, rfl⟩
       rw [EC] at hc0 hc1 AE ⊢
       clear EC
       generalize A.getD i 0 = x at ca p AE
       generalize B.getD i 0 = y at cb q AE
       obtain ⟨O, EO⟩ : ∃ O, (subL A B i).1 = O := ⟨_, rfl⟩
       rw [EO] at co CK5 AE hO
       clear EO hO hA hB
       have e1 : wrap64 (x - y) = x - y := by unfold wrap64; omega
       have e2 : wrap64 (x - y - c) = x - y - c := by unfold wrap64; omega
       by_cases s0 : x - y - c < 0
       · have e3 : wrap64 (x - y - c + 65536) = x - y - c + 65536 := by unfold wrap64; omega
         have d2 : decide (x - y - c < 0) = true := decide_eq_true s0
         have AE' := Aside0.mk (AE.out.trans (by rw [if_pos s0, if_pos s0]))
         clear p q hc0 hc1 AE
         go_wp2
         go_quiet (fail)
         go_wp2
         go_roundg gj
         case measure => exact Nat.lt_succ_self _
         case rel =>
          refine ⟨i + 1, by simp, ?_, ⟨mer⟩, ⟨?_⟩, ⟨?_⟩, ⟨?_⟩, ⟨?_⟩, ⟨?_⟩⟩
          · exact congrArg (Value.int .i64) (congrArg Prod.snd AE'.out).symm
          · refine blk_put (w := wr.drewN nq) CK5.out (1 + i) _ ?_
            rw [AE'.out]
            exact numA_set _ _ _ _
          · exact blk_far (w := wr.drewN nq) CK2.out (by exact N25.out) _
          · exact blk_far (w := wr.drewN nq) CK3.out (by exact N35.out) _
          · exact blk_far (w := wr.drewN nq) CK4.out (by exact N45.out) _
          · refine below_set ?_ GE5.out
            repeat (first | exact HC.out | apply pw_below_drewN | apply below_drew1)
       · have d2 : decide (x - y - c < 0) = false := decide_eq_false s0
         have AE' := Aside0.mk (AE.out.trans (by rw [if_neg s0, if_neg s0]))
         clear p q hc0 hc1 AE
         go_wp2
         go_quiet (fail)
         go_wp2
         go_roundg gj
         case measure => exact Nat.lt_succ_self _
         case rel =>
          refine ⟨i + 1, by simp, ?_, ⟨mer⟩, ⟨?_⟩, ⟨?_⟩, ⟨?_⟩, ⟨?_⟩, ⟨?_⟩⟩
          · exact congrArg (Value.int .i64) (congrArg Prod.snd AE'.out).symm
          · refine blk_put (w := wr.drewN nq) CK5.out (1 + i) _ ?_
            rw [AE'.out]
            exact numA_set _ _ _ _
          · exact blk_far (w := wr.drewN nq) CK2.out (by exact N25.out) _
          · exact blk_far (w := wr.drewN nq) CK3.out (by exact N35.out) _
          · exact blk_far (w := wr.drewN nq) CK4.out (by exact N45.out) _
          · refine below_set ?_ GE5.out
            repeat (first | exact HC.out | apply pw_below_drewN | apply below_drew1)
end Go.Proofs.Ytfmbophennepdaa.G

namespace Go.Proofs.Ytfmbophennepdaa.G
open Go.RowKit Go.Proofs.NumMath Go.Proofs.YtfmbophennepdaaW.PrintWords Go.Proofs.YtfmbophennepdaaW.PrintLast Go.Proofs.YtfmbophennepdaaW.PrintMore
set_option linter.unusedVariables false
set_option linter.unusedSimpArgs false
def absI (v : Int) : Int := if v < 0 then -v else v
/-- A row of digits and a sign stand for a number. -/
structure NumV (s : Bool) (D : List Int) (v : Int) : Prop where
  dig : Dig D
  sign : s = decide (v < 0)
  val : val D 18 = absI v
theorem NumV.len {s : Bool} {D : List Int} {v : Int} (h : NumV s D v) : D.length = 18 := h.dig.1
theorem mag_val {a0 a1 : Int} (h0 : -9223372036854775808 ≤ a0 ∧ a0 ≤ 9223372036854775807) (h1 : 0 ≤ a1 ∧ a1 < 18446744073709551616) :
    (magW a0 a1).2 + 18446744073709551616 * (magW a0 a1).1 = absI (a0 * 18446744073709551616 + a1) ∧ (0 ≤ (magW a0 a1).2 ∧ (magW a0 a1).2 < 18446744073709551616) ∧ (0 ≤ (magW a0 a1).1 ∧ (magW a0 a1).1 < 18446744073709551616) := by
  unfold magW absI
  by_cases n : a0 < 0
  · rw [if_pos n, if_pos (show a0 * 18446744073709551616 + a1 < 0 by omega)]
    by_cases z : a1 = 0
    · rw [if_pos z]
      dsimp only
      omega
    · rw [if_neg z]
      dsimp only
      omega
  · rw [if_neg n, if_neg (show ¬ a0 * 18446744073709551616 + a1 < 0 by omega)]
    dsimp only
    omega
theorem fromV (a0 a1 : Int) (h0 : -9223372036854775808 ≤ a0 ∧ a0 ≤ 9223372036854775807) (h1 : 0 ≤ a1 ∧ a1 < 18446744073709551616) :
    ∃ s D, NumV s D (a0 * 18446744073709551616 + a1) ∧ ∀ w, Calls Try.prog 43 #[.agg #[.int .i64 a0, .int .u64 a1]] w fun e w' => e = .returned (.agg (numA s D)) ∧ Below w.heap.size w w' := by
  obtain ⟨m, l, u⟩ := mag_val h0 h1
  refine ⟨_, _, ⟨frL_dig _ _ 4, ?_, ?_⟩, fun w => from.calls a0 a1 h0 h1 w⟩
  · rw [decide_eq_decide]
    omega
  · rw [from_val _ _ l u]
    exact m
theorem fromIntV (n : Int) (h : -9223372036854775808 ≤ n ∧ n ≤ 9223372036854775807) :
    ∃ s D, NumV s D n ∧ ∀ w, Calls Try.prog 46 #[.int .i64 n] w fun e w' => e = .returned (.agg (numA s D)) ∧ Below w.heap.size w w' := by
  refine ⟨_, _, ⟨dfill_dig _ 4 (by decide), rfl, ?_⟩, fun w => fromInt.calls n h w⟩
  have := fromI_range h
  rw [dfill_val18 _ this.1 (by omega)]
  rfl
theorem cmpV {s t : Bool} {A B : List Int} {x y : Int} (hA : NumV s A x) (hB : NumV t B y) (w : World) :
    Calls Try.prog 49 #[.agg (numA s A), .agg (numA t B)] w fun e w' => e = .returned (.int .i64 (sgn (x - y))) ∧ Below w.heap.size w w' := by
  have h := compare.calls s t A B hA.dig hB.dig w
  have e : cmpN s t (cmpD A B 18) = sgn (x - y) := by
    rw [cmpD_eq hA.dig hB.dig, hA.val, hB.val, hA.sign, hB.sign]
    unfold cmpN sgn absI
    by_cases a : x < 0 <;> by_cases b : y < 0 <;> simp only [a, b, decide_true, decide_false, if_true, if_false, Bool.false_eq_true, Bool.true_eq_false] <;> (repeat' split) <;> omega
  rw [e] at h
  exact h
theorem plusV {s t : Bool} {A B : List Int} {x y : Int} (hA : NumV s A x) (hB : NumV t B y) (bx : absI x ≤ 340282366920938463463374607431768211456) (bY : absI y ≤ 340282366920938463463374607431768211456) :
    ∃ u D, NumV u D (x + y) ∧ ∀ w, Calls Try.prog 45 #[.agg (numA s A), .agg (numA t B)] w fun e w' => e = .returned (.agg (numA u D)) ∧ Below w.heap.size w w' := by
  have va := hA.val
  have vb := hB.val
  by_cases e : s = t
  · subst e
    have hs := hA.sign
    have ht := hB.sign
    have big : val A 18 + val B 18 < 65536 ^ 18 := by
      rw [va, vb, show (65536 : Int) ^ 18 = 497323236409786642155382248146820840100456150797347717440463976893159497012533375533056 by decide]
      omega
    have sum := add_sum hA.dig hB.dig big
    refine ⟨_, _, ⟨(addL_dig hA.dig hB.dig 18).1, ?_, ?_⟩, fun w => plus_same.calls s A B hA.dig hB.dig w⟩
    · rw [zero_iff (addL_dig hA.dig hB.dig 18).1, sum, va, vb, hs]
      rw [hs, decide_eq_decide] at ht
      unfold absI
      by_cases a : x < 0
      · rw [decide_eq_true a, if_pos a, if_pos (ht.mp a), decide_eq_false (show ¬ -x + -y = 0 by have := ht.mp a; omega), decide_eq_true (show x + y < 0 by have := ht.mp a; omega)]
        rfl
      · have b : ¬ y < 0 := fun b => a (ht.mpr b)
        rw [decide_eq_false a, decide_eq_false (show ¬ x + y < 0 by omega)]
        rfl
    · rw [sum, va, vb]
      rw [hs, decide_eq_decide] at ht
      unfold absI
      by_cases a : x < 0
      · have := ht.mp a
        rw [if_pos a, if_pos this, if_pos (by omega)]
        omega
      · have b : ¬ y < 0 := fun b => a (ht.mpr b)
        rw [if_neg a, if_neg b, if_neg (by omega)]
  · have e' : t = !s := by cases s <;> cases t <;> simp_all
    subst e'
    have hs := hA.sign
    have ht := hB.sign
    have op : (x < 0 ∧ ¬ y < 0) ∨ (¬ x < 0 ∧ y < 0) := by
      by_cases a : x < 0
      · rw [decide_eq_true a] at hs
        rw [hs] at ht
        exact Or.inl ⟨a, by simpa using ht.symm⟩
      · rw [decide_eq_false a] at hs
        rw [hs] at ht
        exact Or.inr ⟨a, by simpa using ht.symm⟩
    have P := fun w => plus_diff.calls s A B hA.dig hB.dig w
    have c : (cmpD A B 18 < 0) ↔ val A 18 < val B 18 := by
      rw [cmpD_eq hA.dig hB.dig]
      unfold sgn
      split
      · omega
      · split <;> omega
    by_cases l : cmpD A B 18 < 0
    · have l' := c.mp l
      have d := sub_diff hB.dig hA.dig (by omega)
      refine ⟨_, _, ⟨(subL_dig hB.dig hA.dig 18).1, ?_, ?_⟩, fun w => by have := P w; rw [if_pos l] at this; exact this⟩
      · rw [zero_iff (subL_dig hB.dig hA.dig 18).1, d, decide_eq_false (show ¬ val B 18 - val A 18 = 0 by omega), Bool.not_false, Bool.and_true, hs]
        rw [va, vb] at l'
        unfold absI at l'
        rcases op with ⟨p, q⟩ | ⟨p, q⟩
        · rw [decide_eq_true p, decide_eq_false (by rw [if_pos p, if_neg q] at l'; omega)]
          rfl
        · rw [decide_eq_false p, decide_eq_true (by rw [if_neg p, if_pos q] at l'; omega)]
          rfl
      · rw [d, va, vb]
        rw [va, vb] at l'
        unfold absI at *
        rcases op with ⟨p, q⟩ | ⟨p, q⟩
        · rw [if_pos p, if_neg q] at l' ⊢
          rw [if_neg (by omega)]
          omega
        · rw [if_neg p, if_pos q] at l' ⊢
          rw [if_pos (by omega)]
          omega
    · have l' : ¬ val A 18 < val B 18 := fun h => l (c.mpr h)
      have d := sub_diff hA.dig hB.dig (by omega)
      refine ⟨_, _, ⟨(subL_dig hA.dig hB.dig 18).1, ?_, ?_⟩, fun w => by have := P w; rw [if_neg l] at this; exact this⟩
      · rw [zero_iff (subL_dig hA.dig hB.dig 18).1, d, va, vb, hs]
        rw [va, vb] at l'
        unfold absI at *
        rcases op with ⟨p, q⟩ | ⟨p, q⟩
        · rw [if_pos p, if_neg q] at l' ⊢
          rw [decide_eq_true p]
          by_cases z : -x - y = 0
          · rw [decide_eq_true z, decide_eq_false (show ¬ x + y < 0 by omega)]
            rfl
          · rw [decide_eq_false z, decide_eq_true (show x + y < 0 by omega)]
            rfl
        · rw [if_neg p, if_pos q] at l'
          rw [decide_eq_false p, decide_eq_false (show ¬ x + y < 0 by omega)]
          rfl
      · rw [d, va, vb]
        rw [va, vb] at l'
        unfold absI at *
        rcases op with ⟨p, q⟩ | ⟨p, q⟩
        · rw [if_pos p, if_neg q] at l' ⊢
          split <;> omega
        · rw [if_neg p, if_pos q] at l' ⊢
          rw [if_neg (by omega)]
          omega
def wideV (v : Int) : Int × Int × Bool := if -170141183460469231731687303715884105728 ≤ v ∧ v ≤ 170141183460469231731687303715884105727 then (v / 18446744073709551616, v % 18446744073709551616, true) else (0, 0, false)
theorem toW_num {O : List Int} {s : Int} (d : Dig O) (hv : val O 18 = absI s) :
    toW (decide (s < 0)) (cmpD O M7 18) (hh O 0 4) (hh O 4 4) = wideV s := by
  have lo := hh_range d 0 4
  have hi := hh_range d 4 4
  rw [show (65536 : Int) ^ 4 = 18446744073709551616 by decide] at lo hi
  have ce : cmpD O M7 18 = sgn (absI s - 170141183460469231731687303715884105728) := by rw [cmpD_eq d M7_dig, M7_val, hv]
  unfold wideV
  by_cases b : -170141183460469231731687303715884105728 ≤ s ∧ s ≤ 170141183460469231731687303715884105727
  · rw [if_pos b]
    have e := split128 d (by rw [hv]; unfold absI; split <;> omega)
    rw [hv] at e
    generalize cmpD O M7 18 = c at *
    generalize hh O 0 4 = x at *
    generalize hh O 4 4 = y at *
    unfold absI at e ce
    by_cases n : s < 0
    · rw [if_pos n] at e ce
      have c1 : c ≠ 1 := by rw [ce]; unfold sgn; split <;> (try split) <;> omega
      rw [decide_eq_true n]
      by_cases z : x = 0
      · rw [toW_neg0 x y c1 z]
        refine Prod.ext ?_ (Prod.ext ?_ rfl)
        · show wrap64 _ = _
          unfold wrap64
          omega
        · show 0 = s % 18446744073709551616
          omega
      · rw [toW_neg1 x y c1 z]
        refine Prod.ext ?_ (Prod.ext ?_ rfl)
        · show wrap64 _ = _
          unfold wrap64
          omega
        · show 18446744073709551616 - x = s % 18446744073709551616
          omega
    · rw [if_neg n] at e ce
      have c1 : c = -1 := by rw [ce]; unfold sgn; rw [if_pos (by omega)]
      rw [decide_eq_false n, toW_pos x y c1]
      refine Prod.ext ?_ (Prod.ext ?_ rfl)
      · show wrap64 _ = _
        unfold wrap64
        omega
      · show x = s % 18446744073709551616
        omega
  · rw [if_neg b]
    apply toW_bad
    rw [ce]
    unfold sgn absI
    by_cases n : s < 0
    · left
      rw [if_pos n, if_neg (by omega), if_pos (by omega)]
    · rw [if_neg n]
      by_cases z : s = 170141183460469231731687303715884105728
      · right
        rw [if_neg (by omega), if_neg (by omega)]
        exact ⟨rfl, decide_eq_false n⟩
      · left
        rw [if_neg (by omega), if_pos (by omega)]
theorem toV {s : Bool} {D : List Int} {v : Int} (h : NumV s D v) (w : World) :
    Calls Try.prog 47 #[.agg (numA s D)] w fun e w' => e = .returned (.tuple #[.agg #[.int .i64 (wideV v).1, .int .u64 (wideV v).2.1], .bool (wideV v).2.2]) ∧ Below w.heap.size w w' := by
  have c := to.calls s D h.dig w
  rw [h.sign, toW_num h.dig h.val, ← h.sign] at c
  exact c
end Go.Proofs.Ytfmbophennepdaa.G

namespace Go.Proofs.Ytfmbophennepdaa.G
open Go.RowKit Go.Proofs.NumMath Go.Proofs.YtfmbophennepdaaW.PrintWords Go.Proofs.YtfmbophennepdaaW.PrintLast Go.Proofs.YtfmbophennepdaaW.PrintMore
attribute [local go_sem] max2_int min2_int max_two min_two max_three min_three max_four min_four
set_option linter.unusedVariables false
set_option linter.unusedSimpArgs false
def relievoref01_Int.T2 : Bool × List (List Nat × List Nat) := (true, [([], []), ([], []), ([0, 1, 1], [0, 1]), ([2], [2]), ([3, 2], [3]), ([4], [4]), ([4, 4], [4]), ([5, 6, 6, 4], [4, 5, 6]), ([7, 4], [4, 7]), ([4, 8], [4, 8])])
def relievoref01_Int.B2 : List Nat := [0, 0, 3, 7, 15, 31, 31, 127, 255, 511]
theorem relievoref01_Int.tab2 : rtab .any (opsOf Try.f35 2) = relievoref01_Int.T2 := by kernel_rfl
theorem relievoref01_Int.bits2 : waitsOk relievoref01_Int.T2.2 relievoref01_Int.B2 = true := by kernel_rfl
set_option maxHeartbeats 2000000 in
set_option maxRecDepth 100000 in
theorem intR.calls (a0 a1 : Int) (h0 : -9223372036854775808 ≤ a0 ∧ a0 ≤ 9223372036854775807) (h1 : 0 ≤ a1 ∧ a1 < 18446744073709551616) (r1 : Int) (r2 : Bool)
    (hr : (r1, r2) = if -9223372036854775808 ≤ a0 * 18446744073709551616 + a1 ∧ a0 * 18446744073709551616 + a1 ≤ 9223372036854775807 then (a0 * 18446744073709551616 + a1, true) else (0, false)) (w : World) :
    Calls Try.prog 35 #[.agg #[.int .i64 a0, .int .u64 a1]] w fun e w' => e = .returned (.tuple #[.int .i64 r1, .bool r2]) ∧ Below w.heap.size w w' := by
 have hu67 := Try.underlying67
 have hu69 := Try.underlying69
 obtain ⟨s, D, nv, FR⟩ := fromV a0 a1 h0 h1
 obtain ⟨s1, D1, nv1, F1⟩ := fromIntV (-9223372036854775808) (by decide)
 obtain ⟨s2, D2, nv2, F2⟩ := fromIntV 9223372036854775807 (by decide)
 have hD := nv.len
 have C1 := fun w => cmpV nv nv1 w
 have C2 := fun w => cmpV nv nv2 w
 have HB := Aside0.mk (Below.refl w.heap.size w)
 by_cases a : a0 * 18446744073709551616 + a1 < -9223372036854775808
 · rw [if_neg (by omega)] at hr
   obtain ⟨rfl, rfl⟩ := Prod.mk.inj hr
   have e : sgn (a0 * 18446744073709551616 + a1 - -9223372036854775808) = -1 := by unfold sgn; rw [if_pos (by omega)]
   rw [e] at C1
   clear C2 F2 nv2 nv nv1 hr a h0 h1 e
   go_enter Try.func35, Try.ntmps35
   go_wp2_with (first
     | ((with_reducible refine gate_dst (N := 1) rfl ?_); refine box_event ?hg (N := 1) ?hd (cs := #[.int .i64 a0, .int .u64 a1]) (t := 53) ?hr ?_; (case hd => rfl); (case hg => rfl); (case hr => first | (go_simp; done) | (go_simp; rfl)); intro g1 hg w3 hbox hb; have BK1 := Aside0.mk (hbox); have GE1 := Aside0.mk (bG hg (HB.out)); replace HB := Aside0.mk (below_step (HB.out) hb); clear hb hbox hg; obtain ⟨k0, k1⟩ := cells2 BK1.out)
     | (go_at_call 43; (with_reducible refine (FR _).mono ?_); rintro e w5 ⟨rfl, hb⟩; replace BK1 := cB hb BK1; replace HB := Aside0.mk (below_step (HB.out) hb); clear hb)
     | ((with_reducible refine gate_dst (N := 4) rfl ?_); refine box_event ?hg (N := 4) ?hd (cs := numA false Z18) (t := 69) ?hr ?_; (case hd => rfl); (case hg => rfl); (case hr => first | (go_simp; done) | (go_simp; rfl)); intro g4 hg w6 hbox hb; have BK4 := Aside0.mk (hbox); have GE4 := Aside0.mk (bG hg (HB.out)); have N14 := cN hg BK1; have N41 := cM hg BK1; replace HB := Aside0.mk (below_step (HB.out) hb); replace BK1 := cB hb BK1; clear hb hbox hg)
     | ((with_reducible refine gate_store2 (t := 69) (x := .tmp 4) (y := .tmp 6) rfl ?_); refine ev_row rfl 69 (.tmp 4) (.tmp 6) rfl rfl g4 (numA s D) ?hx ?hy 69 (numA false Z18) BK4.out (num_info hD) ((numA_size rfl).trans (numA_size hD).symm) (numA_one _ _) HB.out GE4.out ?_; (case hx => first | (go_simp; done) | rfl); (case hy => first | (go_simp; done) | rfl | (go_simp; rfl)); intro w9 hbox hb hk; replace BK4 := Aside0.mk hbox; replace HB := Aside0.mk hb; replace BK1 := Aside0.mk ((hk _ N14.out).trans BK1.out); clear hbox hb hk))
   clear k0 k1
   replace BK1 := Aside0.mk (blk_drew BK1.out)
   replace BK4 := Aside0.mk (blk_drew BK4.out)
   replace HB := Aside0.mk (below_drew1 HB.out)
   refine start_ (n := 10) (S := fun w' => w'.heap[g4]? = some (.cells (numA s D) 69 (0, 0))) (ds := []) #[false, false, false, false, false, false, false, false, false, false] (by kernel_rfl) rfl rfl (BK4.out) (fun hHeld => ?_); refine with_tabW relievoref01_Int.tab2 relievoref01_Int.bits2 (fun HT_ HW_ => ?_)
   generalize w9.drew = w10 at BK1 BK4 HB hHeld ⊢
   refine take_ (i := 0) (N := some 7) (v := .agg (numA s D)) (a' := ?_) (bm 10 1) rfl rfl (take_ofW HT_.out HW_.out (by kernel_rfl)) (fun _ _ _ h => h) (Or.inl ⟨by rfl, fun w' s0 => exec_load rfl rfl s0 hu69 rfl (num_info hD)⟩) hHeld ?_ ?_
   rotate_left
   ·simp only [Act.put, List.setIfInBounds_toArray, List.set_cons_zero, List.set_cons_succ, i64_w, i32_w]
    rfl
   refine one_ (i := 1) (N := some 8) (bm 10 3) rfl rfl (one_of HT_.out (by kernel_rfl)) (by decide) (fun K hK => ?_)
   refine goes_ Try.func46 (by kernel_rfl) rfl #[.int .i64 (-9223372036854775808)] (by rfl) rfl rfl (by (try simp only [List.map_toArray, List.map_cons, List.map_nil]); first | done | rfl | (simp only [List.length_drop, List.length_take]; rfl)) ?_
   with_reducible refine (F1 _).mono ?_
   rintro e w10_1 ⟨rfl, hb⟩
   refine ⟨_, rfl, ?_⟩
   replace BK1 := cB hb BK1
   replace BK4 := cB hb BK4
   replace HB := Aside0.mk (below_step (HB.out) hb)
   clear hb
   refine hK.out _ _ (BK4.out) (fun hHeld => ?_)
   clear hK K
   refine norm_ (a' := ?_) ?_ ?_
   rotate_left
   ·show Act.put _ (some 8) _ = _
    simp only [Act.put, List.setIfInBounds_toArray, List.set_cons_zero, List.set_cons_succ, i64_w, i32_w]
    rfl
   refine one_ (i := 2) (N := some 9) (bm 10 7) rfl rfl (one_of HT_.out (by kernel_rfl)) (by decide) (fun K hK => ?_)
   refine goes_ Try.func49 (by kernel_rfl) rfl #[.agg (numA s D), .agg (numA s1 D1)] (by rfl) rfl rfl (by (try simp only [List.map_toArray, List.map_cons, List.map_nil]); first | done | rfl | (simp only [List.length_drop, List.length_take]; rfl)) ?_
   with_reducible refine (C1 _).mono ?_
   rintro e w10_2 ⟨rfl, hb⟩
   refine ⟨_, rfl, ?_⟩
   replace BK1 := cB hb BK1
   replace BK4 := cB hb BK4
   replace HB := Aside0.mk (below_step (HB.out) hb)
   clear hb
   refine hK.out _ _ (BK4.out) (fun hHeld => ?_)
   clear hK K
   refine norm_ (a' := ?_) ?_ ?_
   rotate_left
   ·show Act.put _ (some 9) _ = _
    simp only [Act.put, List.setIfInBounds_toArray, List.set_cons_zero, List.set_cons_succ, i64_w, i32_w]
    rfl
   refine pure_ (i := 3) (N := some 10) (v := ?_) (a' := ?_) (bm 10 15) rfl rfl (any_of HT_.out (by kernel_rfl)) (fun _ _ _ h => h) (Or.inl ⟨by rfl, ?_⟩) ?_ ?_
   rotate_left
   ·intro w'
    go_simp
    with_reducible rfl
   rotate_left
   ·simp only [Act.put, List.setIfInBounds_toArray, List.set_cons_zero, List.set_cons_succ, i64_w, i32_w]
    rfl
   refine pure_ (i := 4) (N := some 11) (v := ?_) (a' := ?_) (bm 10 31) rfl rfl (any_of HT_.out (by kernel_rfl)) (fun _ _ _ h => h) (Or.inl ⟨by rfl, ?_⟩) ?_ ?_
   rotate_left
   ·intro w'
    go_simp
    with_reducible rfl
   rotate_left
   ·simp only [Act.put, List.setIfInBounds_toArray, List.set_cons_zero, List.set_cons_succ, i64_w, i32_w]
    rfl
   refine pure_ (i := 5) (N := some 12) (v := undef) (a' := ?_) (bm 10 63) rfl rfl (any_of HT_.out (by kernel_rfl)) (fun _ _ _ h => h) (Or.inr ⟨by rfl, rfl⟩) ?_ ?_
   rotate_left
   ·simp only [Act.put, List.setIfInBounds_toArray, List.set_cons_zero, List.set_cons_succ, i64_w, i32_w]
    rfl
   refine pure_ (i := 6) (N := some 13) (v := undef) (a' := ?_) (bm 10 127) rfl rfl (any_of HT_.out (by kernel_rfl)) (fun _ _ _ h => h) (Or.inr ⟨by rfl, rfl⟩) ?_ ?_
   rotate_left
   ·simp only [Act.put, List.setIfInBounds_toArray, List.set_cons_zero, List.set_cons_succ, i64_w, i32_w]
    rfl
   refine pure_ (i := 7) (N := some 14) (v := undef) (a' := ?_) (bm 10 255) rfl rfl (any_of HT_.out (by kernel_rfl)) (fun _ _ _ h => h) (Or.inr ⟨by rfl, rfl⟩) ?_ ?_
   rotate_left
   ·simp only [Act.put, List.setIfInBounds_toArray, List.set_cons_zero, List.set_cons_succ, i64_w, i32_w]
    rfl
   refine pure_ (i := 8) (N := some 15) (v := undef) (a' := ?_) (bm 10 511) rfl rfl (any_of HT_.out (by kernel_rfl)) (fun _ _ _ h => h) (Or.inr ⟨by rfl, rfl⟩) ?_ ?_
   rotate_left
   ·simp only [Act.put, List.setIfInBounds_toArray, List.set_cons_zero, List.set_cons_succ, i64_w, i32_w]
    rfl
   refine pure_ (i := 9) (N := some 16) (v := ?_) (a' := ?_) (bm 10 1023) rfl rfl (any_of HT_.out (by kernel_rfl)) (fun _ _ _ h => h) (Or.inl ⟨by rfl, ?_⟩) ?_ ?_
   rotate_left
   ·intro w'
    go_simp
    with_reducible rfl
   rotate_left
   ·simp only [Act.put, List.setIfInBounds_toArray, List.set_cons_zero, List.set_cons_succ, i64_w, i32_w]
    rfl
   refine done_ (done_of HT_.out (by kernel_rfl)) ?_
   clear HT_ HW_
   obtain ⟨k0, k1⟩ := cells2 BK1.out
   go_wp2
   go_ret2
   exact ⟨rfl, HB.out⟩
 obtain ⟨c, hc, c0⟩ : ∃ c, sgn (a0 * 18446744073709551616 + a1 - -9223372036854775808) = c ∧ ¬ c < 0 := ⟨_, rfl, by unfold sgn; split <;> (try split) <;> omega⟩
 rw [hc] at C1
 have d0 : decide (c < 0) = false := decide_eq_false c0
 by_cases b : a0 * 18446744073709551616 + a1 > 9223372036854775807
 · rw [if_neg (by omega)] at hr
   obtain ⟨rfl, rfl⟩ := Prod.mk.inj hr
   have e : sgn (a0 * 18446744073709551616 + a1 - 9223372036854775807) = 1 := by unfold sgn; rw [if_neg (by omega), if_pos (by omega)]
   rw [e] at C2
   clear nv2 nv nv1 hr a b h0 h1 e hc
   go_enter Try.func35, Try.ntmps35
   go_wp2_with (first
     | ((with_reducible refine gate_dst (N := 1) rfl ?_); refine box_event ?hg (N := 1) ?hd (cs := #[.int .i64 a0, .int .u64 a1]) (t := 53) ?hr ?_; (case hd => rfl); (case hg => rfl); (case hr => first | (go_simp; done) | (go_simp; rfl)); intro g1 hg w3 hbox hb; have BK1 := Aside0.mk (hbox); have GE1 := Aside0.mk (bG hg (HB.out)); replace HB := Aside0.mk (below_step (HB.out) hb); clear hb hbox hg; obtain ⟨k0, k1⟩ := cells2 BK1.out)
     | (go_at_call 43; (with_reducible refine (FR _).mono ?_); rintro e w5 ⟨rfl, hb⟩; replace BK1 := cB hb BK1; replace HB := Aside0.mk (below_step (HB.out) hb); clear hb)
     | ((with_reducible refine gate_dst (N := 4) rfl ?_); refine box_event ?hg (N := 4) ?hd (cs := numA false Z18) (t := 69) ?hr ?_; (case hd => rfl); (case hg => rfl); (case hr => first | (go_simp; done) | (go_simp; rfl)); intro g4 hg w6 hbox hb; have BK4 := Aside0.mk (hbox); have GE4 := Aside0.mk (bG hg (HB.out)); have N14 := cN hg BK1; have N41 := cM hg BK1; replace HB := Aside0.mk (below_step (HB.out) hb); replace BK1 := cB hb BK1; clear hb hbox hg)
     | ((with_reducible refine gate_store2 (t := 69) (x := .tmp 4) (y := .tmp 6) rfl ?_); refine ev_row rfl 69 (.tmp 4) (.tmp 6) rfl rfl g4 (numA s D) ?hx ?hy 69 (numA false Z18) BK4.out (num_info hD) ((numA_size rfl).trans (numA_size hD).symm) (numA_one _ _) HB.out GE4.out ?_; (case hx => first | (go_simp; done) | rfl); (case hy => first | (go_simp; done) | rfl | (go_simp; rfl)); intro w9 hbox hb hk; replace BK4 := Aside0.mk hbox; replace HB := Aside0.mk hb; replace BK1 := Aside0.mk ((hk _ N14.out).trans BK1.out); clear hbox hb hk))
   clear k0 k1
   replace BK1 := Aside0.mk (blk_drew BK1.out)
   replace BK4 := Aside0.mk (blk_drew BK4.out)
   replace HB := Aside0.mk (below_drew1 HB.out)
   refine start_ (n := 10) (S := fun w' => w'.heap[g4]? = some (.cells (numA s D) 69 (0, 0))) (ds := []) #[false, false, false, false, false, false, false, false, false, false] (by kernel_rfl) rfl rfl (BK4.out) (fun hHeld => ?_); refine with_tabW relievoref01_Int.tab2 relievoref01_Int.bits2 (fun HT_ HW_ => ?_)
   generalize w9.drew = w10 at BK1 BK4 HB hHeld ⊢
   refine take_ (i := 0) (N := some 7) (v := .agg (numA s D)) (a' := ?_) (bm 10 1) rfl rfl (take_ofW HT_.out HW_.out (by kernel_rfl)) (fun _ _ _ h => h) (Or.inl ⟨by rfl, fun w' s0 => exec_load rfl rfl s0 hu69 rfl (num_info hD)⟩) hHeld ?_ ?_
   rotate_left
   ·simp only [Act.put, List.setIfInBounds_toArray, List.set_cons_zero, List.set_cons_succ, i64_w, i32_w]
    rfl
   refine one_ (i := 1) (N := some 8) (bm 10 3) rfl rfl (one_of HT_.out (by kernel_rfl)) (by decide) (fun K hK => ?_)
   refine goes_ Try.func46 (by kernel_rfl) rfl #[.int .i64 (-9223372036854775808)] (by rfl) rfl rfl (by (try simp only [List.map_toArray, List.map_cons, List.map_nil]); first | done | rfl | (simp only [List.length_drop, List.length_take]; rfl)) ?_
   with_reducible refine (F1 _).mono ?_
   rintro e w10_1 ⟨rfl, hb⟩
   refine ⟨_, rfl, ?_⟩
   replace BK1 := cB hb BK1
   replace BK4 := cB hb BK4
   replace HB := Aside0.mk (below_step (HB.out) hb)
   clear hb
   refine hK.out _ _ (BK4.out) (fun hHeld => ?_)
   clear hK K
   refine norm_ (a' := ?_) ?_ ?_
   rotate_left
   ·show Act.put _ (some 8) _ = _
    simp only [Act.put, List.setIfInBounds_toArray, List.set_cons_zero, List.set_cons_succ, i64_w, i32_w]
    rfl
   refine one_ (i := 2) (N := some 9) (bm 10 7) rfl rfl (one_of HT_.out (by kernel_rfl)) (by decide) (fun K hK => ?_)
   refine goes_ Try.func49 (by kernel_rfl) rfl #[.agg (numA s D), .agg (numA s1 D1)] (by rfl) rfl rfl (by (try simp only [List.map_toArray, List.map_cons, List.map_nil]); first | done | rfl | (simp only [List.length_drop, List.length_take]; rfl)) ?_
   with_reducible refine (C1 _).mono ?_
   rintro e w10_2 ⟨rfl, hb⟩
   refine ⟨_, rfl, ?_⟩
   replace BK1 := cB hb BK1
   replace BK4 := cB hb BK4
   replace HB := Aside0.mk (below_step (HB.out) hb)
   clear hb
   refine hK.out _ _ (BK4.out) (fun hHeld => ?_)
   clear hK K
   refine norm_ (a' := ?_) ?_ ?_
   rotate_left
   ·show Act.put _ (some 9) _ = _
    simp only [Act.put, List.setIfInBounds_toArray, List.set_cons_zero, List.set_cons_succ, i64_w, i32_w]
    rfl
   refine pure_ (i := 3) (N := some 10) (v := ?_) (a' := ?_) (bm 10 15) rfl rfl (any_of HT_.out (by kernel_rfl)) (fun _ _ _ h => h) (Or.inl ⟨by rfl, ?_⟩) ?_ ?_
   rotate_left
   ·intro w'
    go_simp
    with_reducible rfl
   rotate_left
   ·simp only [Act.put, List.setIfInBounds_toArray, List.set_cons_zero, List.set_cons_succ, i64_w, i32_w]
    rfl
   refine pure_ (i := 4) (N := some 11) (v := ?_) (a' := ?_) (bm 10 31) rfl rfl (any_of HT_.out (by kernel_rfl)) (fun _ _ _ h => h) (Or.inl ⟨by rfl, ?_⟩) ?_ ?_
   rotate_left
   ·intro w'
    go_simp
    with_reducible rfl
   rotate_left
   ·simp only [Act.put, List.setIfInBounds_toArray, List.set_cons_zero, List.set_cons_succ, i64_w, i32_w]
    rfl
   refine take_ (i := 5) (N := some 12) (v := .agg (numA s D)) (a' := ?_) (bm 10 63) rfl rfl (take_ofW HT_.out HW_.out (by kernel_rfl)) (fun _ _ _ h => h) (Or.inl ⟨by rfl, fun w' s0 => exec_load rfl rfl s0 hu69 rfl (num_info hD)⟩) hHeld ?_ ?_
   rotate_left
   ·simp only [Act.put, List.setIfInBounds_toArray, List.set_cons_zero, List.set_cons_succ, i64_w, i32_w]
    rfl
   refine one_ (i := 6) (N := some 13) (bm 10 127) rfl rfl (one_of HT_.out (by kernel_rfl)) (by decide) (fun K hK => ?_)
   refine goes_ Try.func46 (by kernel_rfl) rfl #[.int .i64 9223372036854775807] (by rfl) rfl rfl (by (try simp only [List.map_toArray, List.map_cons, List.map_nil]); first | done | rfl | (simp only [List.length_drop, List.length_take]; rfl)) ?_
   with_reducible refine (F2 _).mono ?_
   rintro e w10_3 ⟨rfl, hb⟩
   refine ⟨_, rfl, ?_⟩
   replace BK1 := cB hb BK1
   replace BK4 := cB hb BK4
   replace HB := Aside0.mk (below_step (HB.out) hb)
   clear hb
   refine hK.out _ _ (BK4.out) (fun hHeld => ?_)
   clear hK K
   refine norm_ (a' := ?_) ?_ ?_
   rotate_left
   ·show Act.put _ (some 13) _ = _
    simp only [Act.put, List.setIfInBounds_toArray, List.set_cons_zero, List.set_cons_succ, i64_w, i32_w]
    rfl
   refine one_ (i := 7) (N := some 14) (bm 10 255) rfl rfl (one_of HT_.out (by kernel_rfl)) (by decide) (fun K hK => ?_)
   refine goes_ Try.func49 (by kernel_rfl) rfl #[.agg (numA s D), .agg (numA s2 D2)] (by rfl) rfl rfl (by (try simp only [List.map_toArray, List.map_cons, List.map_nil]); first | done | rfl | (simp only [List.length_drop, List.length_take]; rfl)) ?_
   with_reducible refine (C2 _).mono ?_
   rintro e w10_4 ⟨rfl, hb⟩
   refine ⟨_, rfl, ?_⟩
   replace BK1 := cB hb BK1
   replace BK4 := cB hb BK4
   replace HB := Aside0.mk (below_step (HB.out) hb)
   clear hb
   refine hK.out _ _ (BK4.out) (fun hHeld => ?_)
   clear hK K
   refine norm_ (a' := ?_) ?_ ?_
   rotate_left
   ·show Act.put _ (some 14) _ = _
    simp only [Act.put, List.setIfInBounds_toArray, List.set_cons_zero, List.set_cons_succ, i64_w, i32_w]
    rfl
   refine pure_ (i := 8) (N := some 15) (v := ?_) (a' := ?_) (bm 10 511) rfl rfl (any_of HT_.out (by kernel_rfl)) (fun _ _ _ h => h) (Or.inl ⟨by rfl, ?_⟩) ?_ ?_
   rotate_left
   ·intro w'
    go_simp
    with_reducible rfl
   rotate_left
   ·simp only [Act.put, List.setIfInBounds_toArray, List.set_cons_zero, List.set_cons_succ, i64_w, i32_w]
    rfl
   refine pure_ (i := 9) (N := some 16) (v := ?_) (a' := ?_) (bm 10 1023) rfl rfl (any_of HT_.out (by kernel_rfl)) (fun _ _ _ h => h) (Or.inl ⟨by rfl, ?_⟩) ?_ ?_
   rotate_left
   ·intro w'
    go_simp
    with_reducible rfl
   rotate_left
   ·simp only [Act.put, List.setIfInBounds_toArray, List.set_cons_zero, List.set_cons_succ, i64_w, i32_w]
    rfl
   refine done_ (done_of HT_.out (by kernel_rfl)) ?_
   clear HT_ HW_
   obtain ⟨k0, k1⟩ := cells2 BK1.out
   go_wp2
   go_ret2
   exact ⟨rfl, HB.out⟩
 · rw [if_pos (by omega)] at hr
   obtain ⟨rfl, rfl⟩ := Prod.mk.inj hr
   obtain ⟨d, hd, e0⟩ : ∃ d, sgn (a0 * 18446744073709551616 + a1 - 9223372036854775807) = d ∧ ¬ d > 0 := ⟨_, rfl, by unfold sgn; split <;> (try split) <;> omega⟩
   rw [hd] at C2
   have d1 : decide (d > 0) = false := decide_eq_false e0
   have d2 : decide (0 < d) = false := decide_eq_false e0
   have ew : wrap64 a1 = a0 * 18446744073709551616 + a1 := by unfold wrap64; omega
   obtain ⟨A, hA⟩ : ∃ A, a0 * 18446744073709551616 + a1 = A := ⟨_, rfl⟩
   rw [hA] at ew ⊢
   clear nv2 nv nv1 hr a b h0 h1 hc hd hA
   go_enter Try.func35, Try.ntmps35
   go_wp2_with (first
     | ((with_reducible refine gate_dst (N := 1) rfl ?_); refine box_event ?hg (N := 1) ?hd (cs := #[.int .i64 a0, .int .u64 a1]) (t := 53) ?hr ?_; (case hd => rfl); (case hg => rfl); (case hr => first | (go_simp; done) | (go_simp; rfl)); intro g1 hg w3 hbox hb; have BK1 := Aside0.mk (hbox); have GE1 := Aside0.mk (bG hg (HB.out)); replace HB := Aside0.mk (below_step (HB.out) hb); clear hb hbox hg; obtain ⟨k0, k1⟩ := cells2 BK1.out)
     | (go_at_call 43; (with_reducible refine (FR _).mono ?_); rintro e w5 ⟨rfl, hb⟩; replace BK1 := cB hb BK1; replace HB := Aside0.mk (below_step (HB.out) hb); clear hb)
     | ((with_reducible refine gate_dst (N := 4) rfl ?_); refine box_event ?hg (N := 4) ?hd (cs := numA false Z18) (t := 69) ?hr ?_; (case hd => rfl); (case hg => rfl); (case hr => first | (go_simp; done) | (go_simp; rfl)); intro g4 hg w6 hbox hb; have BK4 := Aside0.mk (hbox); have GE4 := Aside0.mk (bG hg (HB.out)); have N14 := cN hg BK1; have N41 := cM hg BK1; replace HB := Aside0.mk (below_step (HB.out) hb); replace BK1 := cB hb BK1; clear hb hbox hg)
     | ((with_reducible refine gate_store2 (t := 69) (x := .tmp 4) (y := .tmp 6) rfl ?_); refine ev_row rfl 69 (.tmp 4) (.tmp 6) rfl rfl g4 (numA s D) ?hx ?hy 69 (numA false Z18) BK4.out (num_info hD) ((numA_size rfl).trans (numA_size hD).symm) (numA_one _ _) HB.out GE4.out ?_; (case hx => first | (go_simp; done) | rfl); (case hy => first | (go_simp; done) | rfl | (go_simp; rfl)); intro w9 hbox hb hk; replace BK4 := Aside0.mk hbox; replace HB := Aside0.mk hb; replace BK1 := Aside0.mk ((hk _ N14.out).trans BK1.out); clear hbox hb hk))
   clear k0 k1
   replace BK1 := Aside0.mk (blk_drew BK1.out)
   replace BK4 := Aside0.mk (blk_drew BK4.out)
   replace HB := Aside0.mk (below_drew1 HB.out)
   refine start_ (n := 10) (S := fun w' => w'.heap[g4]? = some (.cells (numA s D) 69 (0, 0))) (ds := []) #[false, false, false, false, false, false, false, false, false, false] (by kernel_rfl) rfl rfl (BK4.out) (fun hHeld => ?_); refine with_tabW relievoref01_Int.tab2 relievoref01_Int.bits2 (fun HT_ HW_ => ?_)
   generalize w9.drew = w10 at BK1 BK4 HB hHeld ⊢
   refine take_ (i := 0) (N := some 7) (v := .agg (numA s D)) (a' := ?_) (bm 10 1) rfl rfl (take_ofW HT_.out HW_.out (by kernel_rfl)) (fun _ _ _ h => h) (Or.inl ⟨by rfl, fun w' s0 => exec_load rfl rfl s0 hu69 rfl (num_info hD)⟩) hHeld ?_ ?_
   rotate_left
   ·simp only [Act.put, List.setIfInBounds_toArray, List.set_cons_zero, List.set_cons_succ, i64_w, i32_w]
    rfl
   refine one_ (i := 1) (N := some 8) (bm 10 3) rfl rfl (one_of HT_.out (by kernel_rfl)) (by decide) (fun K hK => ?_)
   refine goes_ Try.func46 (by kernel_rfl) rfl #[.int .i64 (-9223372036854775808)] (by rfl) rfl rfl (by (try simp only [List.map_toArray, List.map_cons, List.map_nil]); first | done | rfl | (simp only [List.length_drop, List.length_take]; rfl)) ?_
   with_reducible refine (F1 _).mono ?_
   rintro e w10_1 ⟨rfl, hb⟩
   refine ⟨_, rfl, ?_⟩
   replace BK1 := cB hb BK1
   replace BK4 := cB hb BK4
   replace HB := Aside0.mk (below_step (HB.out) hb)
   clear hb
   refine hK.out _ _ (BK4.out) (fun hHeld => ?_)
   clear hK K
   refine norm_ (a' := ?_) ?_ ?_
   rotate_left
   ·show Act.put _ (some 8) _ = _
    simp only [Act.put, List.setIfInBounds_toArray, List.set_cons_zero, List.set_cons_succ, i64_w, i32_w]
    rfl
   refine one_ (i := 2) (N := some 9) (bm 10 7) rfl rfl (one_of HT_.out (by kernel_rfl)) (by decide) (fun K hK => ?_)
   refine goes_ Try.func49 (by kernel_rfl) rfl #[.agg (numA s D), .agg (numA s1 D1)] (by rfl) rfl rfl (by (try simp only [List.map_toArray, List.map_cons, List.map_nil]); first | done | rfl | (simp only [List.length_drop, List.length_take]; rfl)) ?_
   with_reducible refine (C1 _).mono ?_
   rintro e w10_2 ⟨rfl, hb⟩
   refine ⟨_, rfl, ?_⟩
   replace BK1 := cB hb BK1
   replace BK4 := cB hb BK4
   replace HB := Aside0.mk (below_step (HB.out) hb)
   clear hb
   refine hK.out _ _ (BK4.out) (fun hHeld => ?_)
   clear hK K
   refine norm_ (a' := ?_) ?_ ?_
   rotate_left
   ·show Act.put _ (some 9) _ = _
    simp only [Act.put, List.setIfInBounds_toArray, List.set_cons_zero, List.set_cons_succ, i64_w, i32_w]
    rfl
   refine pure_ (i := 3) (N := some 10) (v := ?_) (a' := ?_) (bm 10 15) rfl rfl (any_of HT_.out (by kernel_rfl)) (fun _ _ _ h => h) (Or.inl ⟨by rfl, ?_⟩) ?_ ?_
   rotate_left
   ·intro w'
    go_simp
    with_reducible rfl
   rotate_left
   ·simp only [Act.put, List.setIfInBounds_toArray, List.set_cons_zero, List.set_cons_succ, i64_w, i32_w]
    rfl
   refine pure_ (i := 4) (N := some 11) (v := ?_) (a' := ?_) (bm 10 31) rfl rfl (any_of HT_.out (by kernel_rfl)) (fun _ _ _ h => h) (Or.inl ⟨by rfl, ?_⟩) ?_ ?_
   rotate_left
   ·intro w'
    go_simp
    with_reducible rfl
   rotate_left
   ·simp only [Act.put, List.setIfInBounds_toArray, List.set_cons_zero, List.set_cons_succ, i64_w, i32_w]
    rfl
   refine take_ (i := 5) (N := some 12) (v := .agg (numA s D)) (a' := ?_) (bm 10 63) rfl rfl (take_ofW HT_.out HW_.out (by kernel_rfl)) (fun _ _ _ h => h) (Or.inl ⟨by rfl, fun w' s0 => exec_load rfl rfl s0 hu69 rfl (num_info hD)⟩) hHeld ?_ ?_
   rotate_left
   ·simp only [Act.put, List.setIfInBounds_toArray, List.set_cons_zero, List.set_cons_succ, i64_w, i32_w]
    rfl
   refine one_ (i := 6) (N := some 13) (bm 10 127) rfl rfl (one_of HT_.out (by kernel_rfl)) (by decide) (fun K hK => ?_)
   refine goes_ Try.func46 (by kernel_rfl) rfl #[.int .i64 9223372036854775807] (by rfl) rfl rfl (by (try simp only [List.map_toArray, List.map_cons, List.map_nil]); first | done | rfl | (simp only [List.length_drop, List.length_take]; rfl)) ?_
   with_reducible refine (F2 _).mono ?_
   rintro e w10_3 ⟨rfl, hb⟩
   refine ⟨_, rfl, ?_⟩
   replace BK1 := cB hb BK1
   replace BK4 := cB hb BK4
   replace HB := Aside0.mk (below_step (HB.out) hb)
   clear hb
   refine hK.out _ _ (BK4.out) (fun hHeld => ?_)
   clear hK K
   refine norm_ (a' := ?_) ?_ ?_
   rotate_left
   ·show Act.put _ (some 13) _ = _
    simp only [Act.put, List.setIfInBounds_toArray, List.set_cons_zero, List.set_cons_succ, i64_w, i32_w]
    rfl
   refine one_ (i := 7) (N := some 14) (bm 10 255) rfl rfl (one_of HT_.out (by kernel_rfl)) (by decide) (fun K hK => ?_)
   refine goes_ Try.func49 (by kernel_rfl) rfl #[.agg (numA s D), .agg (numA s2 D2)] (by rfl) rfl rfl (by (try simp only [List.map_toArray, List.map_cons, List.map_nil]); first | done | rfl | (simp only [List.length_drop, List.length_take]; rfl)) ?_
   with_reducible refine (C2 _).mono ?_
   rintro e w10_4 ⟨rfl, hb⟩
   refine ⟨_, rfl, ?_⟩
   replace BK1 := cB hb BK1
   replace BK4 := cB hb BK4
   replace HB := Aside0.mk (below_step (HB.out) hb)
   clear hb
   refine hK.out _ _ (BK4.out) (fun hHeld => ?_)
   clear hK K
   refine norm_ (a' := ?_) ?_ ?_
   rotate_left
   ·show Act.put _ (some 14) _ = _
    simp only [Act.put, List.setIfInBounds_toArray, List.set_cons_zero, List.set_cons_succ, i64_w, i32_w]
    rfl
   refine pure_ (i := 8) (N := some 15) (v := ?_) (a' := ?_) (bm 10 511) rfl rfl (any_of HT_.out (by kernel_rfl)) (fun _ _ _ h => h) (Or.inl ⟨by rfl, ?_⟩) ?_ ?_
   rotate_left
   ·intro w'
    go_simp
    with_reducible rfl
   rotate_left
   ·simp only [Act.put, List.setIfInBounds_toArray, List.set_cons_zero, List.set_cons_succ, i64_w, i32_w]
    rfl
   refine pure_ (i := 9) (N := some 16) (v := ?_) (a' := ?_) (bm 10 1023) rfl rfl (any_of HT_.out (by kernel_rfl)) (fun _ _ _ h => h) (Or.inl ⟨by rfl, ?_⟩) ?_ ?_
   rotate_left
   ·intro w'
    go_simp
    with_reducible rfl
   rotate_left
   ·simp only [Act.put, List.setIfInBounds_toArray, List.set_cons_zero, List.set_cons_succ, i64_w, i32_w]
    rfl
   refine done_ (done_of HT_.out (by kernel_rfl)) ?_
   clear HT_ HW_
   obtain ⟨k0, k1⟩ := cells2 BK1.out
   go_wp2
   go_ret2
   exact ⟨by rw [← ew]; rfl, HB.out⟩
end Go.Proofs.Ytfmbophennepdaa.G

namespace Go.Proofs.Ytfmbophennepdaa.G
open Go.RowKit Go.Proofs.NumMath Go.Proofs.YtfmbophennepdaaW.PrintWords Go.Proofs.YtfmbophennepdaaW.PrintLast Go.Proofs.YtfmbophennepdaaW.PrintMore
set_option linter.unusedVariables false
def relievoref01_Int.f (a0_0 a0_1 : Int) : Option (Int × Bool) :=
  if (-9223372036854775808 ≤ a0_0 ∧ a0_0 ≤ 9223372036854775807) ∧ (0 ≤ a0_1 ∧ a0_1 < 18446744073709551616) then
    some (if -9223372036854775808 ≤ a0_0 * 18446744073709551616 + a0_1 ∧ a0_0 * 18446744073709551616 + a0_1 ≤ 9223372036854775807 then (a0_0 * 18446744073709551616 + a0_1, true) else (0, false)) else none
theorem relievoref01_Int.calls (a0_0 a0_1 : Int) (r1 : Int) (r2 : Bool) (w : World) (h : relievoref01_Int.f a0_0 a0_1 = some (r1, r2)) :
    Calls Try.prog 35 #[.agg #[.int .i64 a0_0, .int .u64 a0_1]] w fun e w' => e = .returned (.tuple #[.int .i64 r1, .bool r2]) ∧ Below w.heap.size w w' := by
  have hr : (-9223372036854775808 ≤ a0_0 ∧ a0_0 ≤ 9223372036854775807) ∧ (0 ≤ a0_1 ∧ a0_1 < 18446744073709551616) := by
    unfold relievoref01_Int.f at h
    split at h
    · assumption
    · simp at h
  unfold relievoref01_Int.f at h
  rw [if_pos hr] at h
  exact intR.calls a0_0 a0_1 hr.1 hr.2 r1 r2 (Option.some.inj h).symm w
end Go.Proofs.Ytfmbophennepdaa.G

namespace Go.Proofs.NumMath
/-- The lowest b bits of a digit: the rest r and the quotient's digit x go on. -/
def inN (d g : Int) : Nat → Int → Int → Int × Int
  | 0, r, x => (r, x)
  | b + 1, r, x => if d ≤ 2 * r + g / 2 ^ b % 2 then inN d g b (2 * r + g / 2 ^ b % 2 - d) (2 * x + 1) else inN d g b (2 * r + g / 2 ^ b % 2) (2 * x)
theorem inN_val (d g : Int) (hd : 0 < d) : ∀ (b : Nat) (r x : Int), 0 ≤ r ∧ r < d → (inN d g b r x).2 * d + (inN d g b r x).1 = x * 2 ^ b * d + (r * 2 ^ b + g % 2 ^ b) ∧ 0 ≤ (inN d g b r x).1 ∧ (inN d g b r x).1 < d ∧ x * 2 ^ b ≤ (inN d g b r x).2 ∧ (inN d g b r x).2 < (x + 1) * 2 ^ b
  | 0, r, x, h => by
    have e : g % 2 ^ 0 = 0 := by simp [Int.emod_one]
    simp only [inN, Int.pow_zero, Int.mul_one] at *
    simp only [Int.emod_one]
    omega
  | b + 1, r, x, h => by
    have p : (2 : Int) ^ (b + 1) = 2 * 2 ^ b := by rw [Int.pow_succ, Int.mul_comm]
    have p0 : (0 : Int) < 2 ^ b := Int.pow_pos (by decide)
    have eg : g % 2 ^ (b + 1) = g / 2 ^ b % 2 * 2 ^ b + g % 2 ^ b := by
      have e1 := Int.mul_ediv_add_emod g (2 ^ b)
      have e2 := Int.mul_ediv_add_emod (g / 2 ^ b) 2
      have r0 := Int.emod_nonneg g (show (2 : Int) ^ b ≠ 0 by omega)
      have r1 := Int.emod_lt_of_pos g p0
      have c0 : 0 ≤ g / 2 ^ b % 2 ∧ g / 2 ^ b % 2 < 2 := by omega
      have e3 : g = (g / 2 ^ b % 2 * 2 ^ b + g % 2 ^ b) + 2 ^ (b + 1) * (g / 2 ^ b / 2) := by
        rw [p]
        have : g = 2 ^ b * (2 * (g / 2 ^ b / 2) + g / 2 ^ b % 2) + g % 2 ^ b := by rw [e2]; exact e1.symm
        conv => lhs; rw [this]
        grind
      have c1 : 0 ≤ g / 2 ^ b % 2 * 2 ^ b := Int.mul_nonneg c0.1 (by omega)
      have c2 : g / 2 ^ b % 2 * 2 ^ b ≤ 1 * 2 ^ b := Int.mul_le_mul_of_nonneg_right (by omega) (by omega)
      conv => lhs; rw [e3]
      rw [Int.add_mul_emod_self_left, Int.emod_eq_of_lt (by omega) (by omega)]
    have c0 : 0 ≤ g / 2 ^ b % 2 ∧ g / 2 ^ b % 2 < 2 := by omega
    rw [inN, eg, p]
    generalize g / 2 ^ b % 2 = c at *
    by_cases l : d ≤ 2 * r + c
    · rw [if_pos l]
      obtain ⟨v, w0, w1, w2, w3⟩ := inN_val d g hd b (2 * r + c - d) (2 * x + 1) (by omega)
      generalize inN d g b (2 * r + c - d) (2 * x + 1) = q at *
      generalize g % 2 ^ b = t at *
      have f1 : (2 * x + 1) * 2 ^ b = x * (2 * 2 ^ b) + 2 ^ b := by grind
      have f2 : (2 * x + 1 + 1) * 2 ^ b = (x + 1) * (2 * 2 ^ b) := by grind
      refine ⟨?_, w0, w1, by omega, by omega⟩
      rw [v]
      grind
    · rw [if_neg l]
      obtain ⟨v, w0, w1, w2, w3⟩ := inN_val d g hd b (2 * r + c) (2 * x) (by omega)
      generalize inN d g b (2 * r + c) (2 * x) = q at *
      generalize g % 2 ^ b = t at *
      have f1 : 2 * x * 2 ^ b = x * (2 * 2 ^ b) := by grind
      have f2 : (2 * x + 1) * 2 ^ b + 2 ^ b = (x + 1) * (2 * 2 ^ b) := by grind
      have f3 : (2 * x + 1) * 2 ^ b = 2 * x * 2 ^ b + 2 ^ b := by grind
      refine ⟨?_, w0, w1, by omega, by omega⟩
      rw [v]
      grind
/-- The digits from n - 1 down: the rest r and the quotient's digits Q go on. -/
def outN (d : Int) (N : List Int) : Nat → Int → List Int → Int × List Int
  | 0, r, Q => (r, Q)
  | i + 1, r, Q => outN d N i (inN d (N.getD i 0) 16 r 0).1 (Q.set i (inN d (N.getD i 0) 16 r 0).2)
theorem outN_val (d : Int) (N : List Int) (hN : Dig N) (hd : 0 < d) : ∀ (n : Nat) (r : Int) (Q : List Int), n ≤ 18 → 0 ≤ r ∧ r < d → Dig Q → (∀ j, j < n → Q.getD j 0 = 0) →
    Dig (outN d N n r Q).2 ∧ (0 ≤ (outN d N n r Q).1 ∧ (outN d N n r Q).1 < d) ∧ val (outN d N n r Q).2 18 * d + (outN d N n r Q).1 = val Q 18 * d + (r * 65536 ^ n + val N n)
  | 0, r, Q, hn, hr, hQ, hz => ⟨hQ, hr, by simp [outN, val]⟩
  | n + 1, r, Q, hn, hr, hQ, hz => by
    have h := inN_val d (N.getD n 0) hd 16 r 0 hr
    have g := hN.2 n
    have gm : N.getD n 0 % 2 ^ 16 = N.getD n 0 := by
      rw [show (2 : Int) ^ 16 = 65536 by decide]
      exact Int.emod_eq_of_lt g.1 (by omega)
    rw [gm, show (2 : Int) ^ 16 = 65536 by decide] at h
    rw [outN]
    obtain ⟨v, w0, w1, w2, w3⟩ := h
    generalize hq : inN d (N.getD n 0) 16 r 0 = q at *
    have dq : Dig (Q.set n q.2) := dig_set hQ n q.2 (by omega)
    obtain ⟨e1, e2, e3⟩ := outN_val d N hN hd n q.1 (Q.set n q.2) (by omega) ⟨w0, w1⟩ dq (fun j hj => by rw [getD_set_ne _ (by omega)]; exact hz j (by omega))
    refine ⟨e1, e2, ?_⟩
    rw [e3, val_set _ _ (by rw [hQ.1]; omega) _ (by omega), hz n (by omega), show val N (n + 1) = val N n + N.getD n 0 * 65536 ^ n from rfl, Int.pow_succ]
    have v' : q.1 = r * 65536 + N.getD n 0 - q.2 * d := by omega
    rw [v']
    generalize N.getD n 0 = g at *
    generalize (65536 : Int) ^ n = P at *
    generalize val Q 18 = X at *
    generalize val N n = Y at *
    grind
end Go.Proofs.NumMath

namespace Go.Proofs.Ytfmbophennepdaa.G
open Go.RowKit Go.Proofs.NumMath Go.Proofs.YtfmbophennepdaaW.PrintWords Go.Proofs.YtfmbophennepdaaW.PrintLast Go.Proofs.YtfmbophennepdaaW.PrintMore
attribute [local go_sem] max2_int min2_int max_two min_two max_three min_three max_four min_four
set_option linter.unusedVariables false
set_option linter.unusedSimpArgs false
theorem set_same : ∀ (Q : List Int) (i : Nat), Q.getD i 0 = 0 → Q.set i 0 = Q
  | [], _, _ => rfl
  | a :: Q, 0, h => by
    have : a = 0 := by simpa using h
    rw [this]
    rfl
  | a :: Q, i + 1, h => by
    rw [List.set_cons_succ, set_same Q i (by simpa using h)]
theorem and_one (z : Int) (h0 : 0 ≤ z) (h1 : z < 9223372036854775808) : bits .and .i64 z 1 = z % 2 := by
  have h2 : (BitVec.ofInt 64 1).toNat = 2 ^ 1 - 1 := by decide
  have key : (BitVec.ofInt 64 z &&& BitVec.ofInt 64 1).toNat = (z % ((2 ^ 64 : Nat) : Int)).toNat % 2 ^ 1 := by
    rw [BitVec.toNat_and, BitVec.toNat_ofInt, h2, Nat.and_two_pow_sub_one_eq_mod]
  show IntKind.i64.wrap ((BitVec.ofInt 64 z &&& BitVec.ofInt 64 1).toNat : Nat) = z % 2
  rw [key, IntKind.wrap_i64]
  omega
def relievoref01_Div.T20 : Bool × List (List Nat × List Nat) := (true, [([], []), ([], []), ([0, 1, 1], [0, 1]), ([2, 2, 0, 1, 2], [2])])
def relievoref01_Div.B20 : List Nat := [0, 0, 3, 7]
theorem relievoref01_Div.tab20 : rtab .any (opsOf Try.f33 20) = relievoref01_Div.T20 := by kernel_rfl
theorem relievoref01_Div.bits20 : waitsOk relievoref01_Div.T20.2 relievoref01_Div.B20 = true := by kernel_rfl
set_option maxHeartbeats 2000000 in
set_option maxRecDepth 100000 in
theorem div_walk (a0_0 a0_1 a1 o1 o2 rr : Int) (ok z sA s1 : Bool) (N QF D1 : List Int) (RF : Int) (w : World) (hd : 1 ≤ a1 ∧ a1 ≤ 9223372036854775807) (dN : Dig N) (hl : QF.length = 18) (hD1 : D1.length = 18)
    (ZR : ∀ w, Calls Try.prog 44 #[.agg (ar QF)] w fun e w' => e = .returned (.bool z) ∧ Below w.heap.size w w')
    (F1 : ∀ w, Calls Try.prog 46 #[.int .i64 (-1)] w fun e w' => e = .returned (.agg (numA s1 D1)) ∧ Below w.heap.size w w')
    (HF : sA = false → (∀ w, Calls Try.prog 47 #[.agg (numA false QF)] w fun e w' => e = .returned (.tuple #[.agg #[.int .i64 o1, .int .u64 o2], .bool ok]) ∧ Below w.heap.size w w') ∧ rr = RF)
    (HT0 : sA = true → RF = 0 → (∀ w, Calls Try.prog 47 #[.agg (numA (!z) QF)] w fun e w' => e = .returned (.tuple #[.agg #[.int .i64 o1, .int .u64 o2], .bool ok]) ∧ Below w.heap.size w w') ∧ rr = RF)
    (HT1 : sA = true → 0 < RF → ∃ s3 D3, D3.length = 18 ∧ (∀ w, Calls Try.prog 45 #[.agg (numA (!z) QF), .agg (numA s1 D1)] w fun e w' => e = .returned (.agg (numA s3 D3)) ∧ Below w.heap.size w w') ∧ (∀ w, Calls Try.prog 47 #[.agg (numA s3 D3)] w fun e w' => e = .returned (.tuple #[.agg #[.int .i64 o1, .int .u64 o2], .bool ok]) ∧ Below w.heap.size w w') ∧ rr = a1 - RF)
    (FR : ∀ w, Calls Try.prog 43 #[.agg #[.int .i64 a0_0, .int .u64 a0_1]] w fun e w' => e = .returned (.agg (numA sA N)) ∧ Below w.heap.size w w')
    (ho : outN a1 N 18 0 Z18 = (RF, QF)) :
    Calls Try.prog 33 #[.agg #[.int .i64 a0_0, .int .u64 a0_1], .int .i64 a1] w fun e w' => e = .returned (.tuple #[.agg #[.int .i64 o1, .int .u64 o2], .int .i64 rr, .bool ok]) ∧ Below w.heap.size w w' := by
 have hu53 := Try.underlying53
 have hu67 := Try.underlying67
 have hu69 := Try.underlying69
 have hN : N.length = 18 := dN.1
 have HB := Aside0.mk (Below.refl w.heap.size w)
 have c1 : ¬ a1 < 1 := by omega
 go_enter Try.func33, Try.ntmps33
 go_wp2_with (first
   | ((with_reducible refine gate_dst (N := 2) rfl ?_); refine box_event ?hg (N := 2) ?hd (cs := #[.int .i64 a0_0, .int .u64 a0_1]) (t := 53) ?hr ?_; (case hd => rfl); (case hg => rfl); (case hr => first | (go_simp; done) | (go_simp; rfl)); intro g2 hg w3 hbox hb; have BK2 := Aside0.mk (hbox); have GE2 := Aside0.mk (bG hg (HB.out)); replace HB := Aside0.mk (below_step (HB.out) hb); clear hb hbox hg; obtain ⟨k0, k1⟩ := cells2 BK2.out)
   | ((with_reducible refine gate_dst (N := 4) rfl ?_); refine box_event ?hg (N := 4) ?hd (cs := #[.int .i64 0, .int .u64 0]) (t := 53) ?hr ?_; (case hd => rfl); (case hg => rfl); (case hr => first | (go_simp; done) | (go_simp; rfl)); intro g4 hg w4 hbox hb; have BK4 := Aside0.mk (hbox); have GE4 := Aside0.mk (bG hg (HB.out)); have N24 := cN hg BK2; have N42 := cM hg BK2; replace HB := Aside0.mk (below_step (HB.out) hb); replace BK2 := cB hb BK2; clear hb hbox hg; obtain ⟨k0, k1⟩ := cells2 BK2.out)
   | (go_at_call 43; (with_reducible refine (FR _).mono ?_); rintro e w5 ⟨rfl, hb⟩; replace BK2 := cB hb BK2; replace BK4 := cB hb BK4; replace HB := Aside0.mk (below_step (HB.out) hb); clear hb)
   | ((with_reducible refine gate_dst (N := 7) rfl ?_); refine box_event ?hg (N := 7) ?hd (cs := numA false Z18) (t := 69) ?hr ?_; (case hd => rfl); (case hg => rfl); (case hr => first | (go_simp; done) | (go_simp; rfl)); intro g7 hg w6 hbox hb; have BK7 := Aside0.mk (hbox); have GE7 := Aside0.mk (bG hg (HB.out)); have N27 := cN hg BK2; have N72 := cM hg BK2; have N47 := cN hg BK4; have N74 := cM hg BK4; replace HB := Aside0.mk (below_step (HB.out) hb); replace BK2 := cB hb BK2; replace BK4 := cB hb BK4; clear hb hbox hg)
   | ((with_reducible refine gate_store2 (t := 69) (x := .tmp 7) (y := .tmp 19) rfl ?_); refine ev_row rfl 69 (.tmp 7) (.tmp 19) rfl rfl g7 (numA sA N) ?hx ?hy 69 (numA false Z18) BK7.out (num_info hN) ((numA_size rfl).trans (numA_size hN).symm) (numA_one _ _) HB.out GE7.out ?_; (case hx => first | (go_simp; done) | rfl); (case hy => first | (go_simp; done) | rfl | (go_simp; rfl)); intro w9 hbox hb hk; replace BK7 := Aside0.mk hbox; replace HB := Aside0.mk hb; replace BK2 := Aside0.mk ((hk _ N27.out).trans BK2.out); replace BK4 := Aside0.mk ((hk _ N47.out).trans BK4.out); clear hbox hb hk)
   | ((with_reducible refine gate_dst (N := 8) rfl ?_); refine box_event ?hg (N := 8) ?hd (cs := numA false Z18) (t := 69) ?hr ?_; (case hd => rfl); (case hg => rfl); (case hr => first | (go_simp; done) | (go_simp; rfl)); intro g8 hg w10 hbox hb; have BK8 := Aside0.mk (hbox); have GE8 := Aside0.mk (bG hg (HB.out)); have N28 := cN hg BK2; have N82 := cM hg BK2; have N48 := cN hg BK4; have N84 := cM hg BK4; have N78 := cN hg BK7; have N87 := cM hg BK7; replace HB := Aside0.mk (below_step (HB.out) hb); replace BK2 := cB hb BK2; replace BK4 := cB hb BK4; replace BK7 := cB hb BK7; clear hb hbox hg)
   | ((with_reducible refine gate_store2 (t := 69) (x := .tmp 8) (y := .tmp 20) rfl ?_); refine ev_row rfl 69 (.tmp 8) (.tmp 20) rfl rfl g8 (numA false Z18) ?hx ?hy 69 (numA false Z18) BK8.out (num_info rfl) rfl (numA_one _ _) HB.out GE8.out ?_; (case hx => first | (go_simp; done) | rfl); (case hy => first | (go_simp; done) | rfl | (go_simp; rfl)); intro w11 hbox hb hk; replace BK8 := Aside0.mk hbox; replace HB := Aside0.mk hb; replace BK2 := Aside0.mk ((hk _ N28.out).trans BK2.out); replace BK4 := Aside0.mk ((hk _ N48.out).trans BK4.out); replace BK7 := Aside0.mk ((hk _ N78.out).trans BK7.out); clear hbox hb hk))
 go_loopg [9, 10, 11] 18 (fun ki v9 v10 v11 w' => ∃ (r : Int) (Q : List Int), v9 = .int .u64 r ∧ v10 = .int .i64 ((ki : Int) - 1) ∧ Aside0 (outN a1 N ki r Q = (RF, QF)) ∧ Aside0 (0 ≤ r ∧ r < a1) ∧ Aside0 (ki ≤ 18) ∧ Aside0 (Dig Q) ∧ Aside0 (∀ j, j < ki → Q.getD j 0 = 0) ∧ Aside0 (w'.heap[g8]? = some (.cells (numA false Q) 69 (0, 0))) ∧ Aside0 (w'.heap[g7]? = some (.cells (numA sA N) 69 (0, 0))) ∧ Aside0 (w'.heap[g2]? = some (.cells #[.int .i64 a0_0, .int .u64 a0_1] 53 (0, 0))) ∧ Aside0 (w'.heap[g4]? = some (.cells #[.int .i64 0, .int .u64 0] 53 (0, 0))) ∧ Aside0 (Below w.heap.size w w'))
 case atStart => exact ⟨0, Z18, rfl, rfl, ⟨ho⟩, ⟨by omega⟩, ⟨Nat.le_refl _⟩, ⟨dig_zero⟩, ⟨fun j hj => (by decide : ∀ n, n < 18 → Z18.getD n 0 = 0) j hj⟩, BK8, BK7, BK2, BK4, HB⟩
 case round =>
  clear BK8 BK7 BK2 BK4 HB
  obtain ⟨r, Q, rfl, rfl, HO, HR, HK, dQ1, zQ1, CK8, CK7, CK2, CK4, HC⟩ := hrel
  cases gk with
  | zero =>
   have ho' := HO.out
   rw [outN] at ho'
   have d1 : decide (0 ≤ ((0 : Nat) : Int) - 1) = false := rfl
   obtain ⟨e1, e2⟩ := Prod.mk.inj ho'
   rw [e1]
   rw [e1] at HR
   rw [e2] at CK8
   have HRF := HR.out
   have er : wrap64 RF = RF := by unfold wrap64; omega
   have c7 := (blk_cell CK7.out 0).trans (numA_get0 sA N)
   have c8 := (blk_cell CK8.out 0).trans (numA_get0 false QF)
   have f8 := blk_frozen CK8.out 0
   have nn7 := N78.out
   have nn8 := N87.out
   clear e1 e2 HO dQ1 zQ1 HK ho'
   cases sA
   · obtain ⟨TO, rfl⟩ := HF rfl
     clear HF HT0 HT1
     go_wp2_with (first
   | ((with_reducible refine gate_dst (N := 87) rfl ?_); replace CK8 := Aside0.mk (blk_put CK8.out 0 _ (numA_neg false false QF)); replace CK7 := Aside0.mk (blk_far CK7.out (p := ⟨g8, 0, none⟩) (by exact N78.out) (.bool false)); replace CK4 := Aside0.mk (blk_far CK4.out (p := ⟨g8, 0, none⟩) (by exact N48.out) (.bool false)); replace HC := Aside0.mk (below_set (j := 0) (v := .bool false) HC.out GE8.out); refine wpList_load_row rfl 69 (.tmp 8) rfl g8 ?hx 69 (numA false QF) (0, 0) _ CK8.out hu69 rfl (num_info hl) ?_; (case hx => first | (go_simp; done) | rfl))
   | (go_at_call 47; (with_reducible refine (TO _).mono ?_); rintro e' w20 ⟨rfl, hb⟩; replace CK4 := cB hb CK4; replace HC := Aside0.mk (below_step (HC.out) hb); clear hb)
   | ((with_reducible refine gate_dst (N := 13) rfl ?_); refine box_event ?hg (N := 13) ?hd (cs := #[.int .i64 0, .int .u64 0]) (t := 53) ?hr ?_; (case hd => rfl); (case hg => rfl); (case hr => first | (go_simp; done) | (go_simp; rfl)); intro g13 hg w21 hbox hb; have BK13 := Aside0.mk (hbox); have GE13 := Aside0.mk (bG hg (HC.out)); have N413 := cN hg CK4; have N134 := cM hg CK4; replace HC := Aside0.mk (below_step (HC.out) hb); replace CK4 := cB hb CK4; clear hb hbox hg; have y0 := (blk_cell BK13.out 0).trans (rfl : _ = some (Value.int .i64 0)); have yf0 := blk_frozen BK13.out 0; have y1 := (blk_cell BK13.out 1).trans (rfl : _ = some (Value.int .u64 0)); have yf1 := blk_frozen BK13.out 1; have u0 := (blk_cell CK4.out 0).trans (rfl : _ = some (Value.int .i64 0)); have uf0 := blk_frozen CK4.out 0; have u1 := (blk_cell CK4.out 1).trans (rfl : _ = some (Value.int .u64 0)); have uf1 := blk_frozen CK4.out 1; have ha := N413.out; have hbb := N134.out))
     (try simp only [Exit.inBlock, Exit.then])
     refine bodyPost_ret (results_ctt rfl _ _ g4 53 #[.int .i64 o1, .int .u64 o2] (0, 0) _ rfl (blk_put (cs' := #[.int .i64 o1, .int .u64 o2]) (blk_put (blk_far (blk_far CK4.out (p := ⟨g13, 0, none⟩) (by exact N413.out) (.int .i64 o1)) (p := ⟨g13, 1, none⟩) (by exact N413.out) (.int .u64 o2)) 0 _ rfl) 1 _ rfl) Try.underlying53 rfl (by kernel_rfl)) rfl ?_
     exact ⟨rfl, below_set (below_set (below_set (below_set HC.out GE13.out) GE13.out) GE4.out) GE4.out⟩
   by_cases h0 : 0 < RF
   · obtain ⟨s3, D3, h3, PL, TO, rfl⟩ := HT1 rfl h0
     clear HF HT0 HT1
     have d5 : decide (0 < RF) = true := decide_eq_true h0
     have em : wrap64 (a1 - RF) = a1 - RF := by unfold wrap64; omega
     go_wp2_with (first
   | ((with_reducible refine gate_dst (N := 67) rfl ?_); refine ev_mid ?hw 67 (.tmp 66) rfl g8 1 ?hx _ (ar QF) rfl _ (num_range CK8.out) hu67 rfl (ar_info hl) ?_; (case hx => first | (go_simp; done) | rfl); (case hw => first | rfl | (go_simp; done)))
   | (go_at_call 44; (with_reducible refine (ZR _).mono ?_); rintro e' w19 ⟨rfl, hb⟩; replace CK8 := cB hb CK8; replace CK7 := cB hb CK7; replace CK4 := cB hb CK4; replace HC := Aside0.mk (below_step (HC.out) hb); clear hb; have c7 := (blk_cell CK7.out 0).trans (numA_get0 true N); have c8 := (blk_cell CK8.out 0).trans (numA_get0 false QF); have f8 := blk_frozen CK8.out 0))
     replace CK8 := Aside0.mk (blk_put CK8.out 0 _ (numA_neg false (!z) QF))
     replace CK7 := Aside0.mk (blk_far CK7.out (p := ⟨g8, 0, none⟩) (by exact N78.out) (.bool (!z)))
     replace CK4 := Aside0.mk (blk_far CK4.out (p := ⟨g8, 0, none⟩) (by exact N48.out) (.bool (!z)))
     replace HC := Aside0.mk (below_set (j := 0) (v := .bool (!z)) HC.out GE8.out)
     clear c7 c8 f8
     generalize w19.setCell ⟨g8, 0, none⟩ (.bool (!z)) = w30 at CK4 CK7 CK8 HC ⊢
     replace CK4 := Aside0.mk (blk_drew CK4.out)
     replace CK7 := Aside0.mk (blk_drew CK7.out)
     replace CK8 := Aside0.mk (blk_drew CK8.out)
     replace HC := Aside0.mk (below_drew1 HC.out)
     refine start_ (n := 4) (S := fun w' => w'.heap[g8]? = some (.cells (numA (!z) QF) 69 (0, 0))) (ds := [3]) #[false, false, false, false] (by kernel_rfl) rfl rfl CK8.out (fun hHeld => ?_); refine with_tabW relievoref01_Div.tab20 relievoref01_Div.bits20 (fun HT_ HW_ => ?_)
     generalize w30.drew = w31 at CK4 CK7 CK8 HC hHeld ⊢
     refine take_ (i := 0) (N := some 80) (v := .agg (numA (!z) QF)) (a' := ?_) #[true, false, false, false] rfl rfl (take_ofW HT_.out HW_.out (by kernel_rfl)) (fun _ _ _ h => h) (Or.inl ⟨by rfl, fun w' s0 => exec_load rfl rfl s0 hu69 rfl (num_info hl)⟩) hHeld ?_ ?_
     rotate_left
     ·simp only [Act.put, List.setIfInBounds_toArray, List.set_cons_zero, List.set_cons_succ, i64_w, i32_w]
      rfl
     refine one_ (i := 1) (N := some 81) #[true, true, false, false] rfl rfl (one_of HT_.out (by kernel_rfl)) (by decide) (fun K hK => ?_)
     refine goes_ Try.func46 (by kernel_rfl) rfl #[.int .i64 (-1)] (by rfl) rfl rfl (by (try simp only [List.map_toArray, List.map_cons, List.map_nil]); first | done | rfl | (simp only [List.length_drop, List.length_take]; rfl)) ?_
     with_reducible refine (F1 _).mono ?_
     rintro e w31_1 ⟨rfl, hb⟩
     refine ⟨_, rfl, ?_⟩
     replace CK4 := cB hb CK4
     replace CK7 := cB hb CK7
     replace CK8 := cB hb CK8
     replace HC := Aside0.mk (below_step (HC.out) hb)
     clear hb
     refine hK.out _ _ CK8.out (fun hHeld => ?_)
     clear hK K
     refine norm_ (a' := ?_) ?_ ?_
     rotate_left
     ·show Act.put _ (some 81) _ = _
      simp only [Act.put, List.setIfInBounds_toArray, List.set_cons_zero, List.set_cons_succ, i64_w, i32_w]
      rfl
     refine one_ (i := 2) (N := some 82) #[true, true, true, false] rfl rfl (one_of HT_.out (by kernel_rfl)) (by decide) (fun K hK => ?_)
     refine goes_ Try.func45 (by kernel_rfl) rfl #[.agg (numA (!z) QF), .agg (numA s1 D1)] (by rfl) rfl rfl (by (try simp only [List.map_toArray, List.map_cons, List.map_nil]); first | done | rfl | (simp only [List.length_drop, List.length_take]; rfl)) ?_
     with_reducible refine (PL _).mono ?_
     rintro e w31_2 ⟨rfl, hb⟩
     refine ⟨_, rfl, ?_⟩
     replace CK4 := cB hb CK4
     replace CK7 := cB hb CK7
     replace CK8 := cB hb CK8
     replace HC := Aside0.mk (below_step (HC.out) hb)
     clear hb
     refine hK.out _ _ CK8.out (fun hHeld => ?_)
     clear hK K
     refine norm_ (a' := ?_) ?_ ?_
     rotate_left
     ·show Act.put _ (some 82) _ = _
      simp only [Act.put, List.setIfInBounds_toArray, List.set_cons_zero, List.set_cons_succ, i64_w, i32_w]
      rfl
     refine last_ (i := 3) (N := none) #[true, true, true, true] rfl rfl (one_of HT_.out (by kernel_rfl)) (by decide) (fun K hK => ?_)
     rw [if_pos (by rfl)]
     refine wp_store_row 69 (.tmp 8) (.tmp 82) rfl g8 (numA s3 D3) rfl rfl 69 (numA (!z) QF) CK8.out (num_info h3) ((numA_size hl).trans (numA_size h3).symm) (numA_one _ _) ?_
     replace CK4 := Aside0.mk ((setRow_other w31_2 g8 g4 (numA s3 D3) N48.out).trans CK4.out)
     replace HC := Aside0.mk (Go.below_setRow HC.out GE8.out (numA s3 D3))
     replace CK8 := Aside0.mk (setRow_heap w31_2 g8 (numA (!z) QF) (numA s3 D3) 69 (0, 0) CK8.out)
     refine hK.out _ _ ?_
     clear hK K
     refine done_ (done_of HT_.out (by kernel_rfl)) ?_
     clear HT_ HW_ hHeld CK7
     generalize w31_2.setRow g8 (numA s3 D3) = w32 at CK4 CK8 HC ⊢
     go_wp2_with (first
   | ((with_reducible refine gate_dst (N := 87) rfl ?_); refine wpList_load_row rfl 69 (.tmp 8) rfl g8 ?hx 69 (numA s3 D3) (0, 0) _ CK8.out hu69 rfl (num_info h3) ?_; (case hx => first | (go_simp; done) | rfl))
   | (go_at_call 47; (with_reducible refine (TO _).mono ?_); rintro e' w20 ⟨rfl, hb⟩; replace CK4 := cB hb CK4; replace HC := Aside0.mk (below_step (HC.out) hb); clear hb)
   | ((with_reducible refine gate_dst (N := 13) rfl ?_); refine box_event ?hg (N := 13) ?hd (cs := #[.int .i64 0, .int .u64 0]) (t := 53) ?hr ?_; (case hd => rfl); (case hg => rfl); (case hr => first | (go_simp; done) | (go_simp; rfl)); intro g13 hg w21 hbox hb; have BK13 := Aside0.mk (hbox); have GE13 := Aside0.mk (bG hg (HC.out)); have N413 := cN hg CK4; have N134 := cM hg CK4; replace HC := Aside0.mk (below_step (HC.out) hb); replace CK4 := cB hb CK4; clear hb hbox hg; have y0 := (blk_cell BK13.out 0).trans (rfl : _ = some (Value.int .i64 0)); have yf0 := blk_frozen BK13.out 0; have y1 := (blk_cell BK13.out 1).trans (rfl : _ = some (Value.int .u64 0)); have yf1 := blk_frozen BK13.out 1; have u0 := (blk_cell CK4.out 0).trans (rfl : _ = some (Value.int .i64 0)); have uf0 := blk_frozen CK4.out 0; have u1 := (blk_cell CK4.out 1).trans (rfl : _ = some (Value.int .u64 0)); have uf1 := blk_frozen CK4.out 1; have ha := N413.out; have hbb := N134.out))
     (try simp only [Exit.inBlock, Exit.then])
     refine bodyPost_ret (results_ctt rfl _ _ g4 53 #[.int .i64 o1, .int .u64 o2] (0, 0) _ rfl (blk_put (cs' := #[.int .i64 o1, .int .u64 o2]) (blk_put (blk_far (blk_far CK4.out (p := ⟨g13, 0, none⟩) (by exact N413.out) (.int .i64 o1)) (p := ⟨g13, 1, none⟩) (by exact N413.out) (.int .u64 o2)) 0 _ rfl) 1 _ rfl) Try.underlying53 rfl (by kernel_rfl)) rfl ?_
     exact ⟨rfl, below_set (below_set (below_set (below_set HC.out GE13.out) GE13.out) GE4.out) GE4.out⟩
   · obtain ⟨TO, rfl⟩ := HT0 rfl (by omega)
     clear HF HT0 HT1
     have d5 : decide (0 < rr) = false := decide_eq_false h0
     go_wp2_with (first
   | ((with_reducible refine gate_dst (N := 87) rfl ?_); replace CK8 := Aside0.mk (blk_put CK8.out 0 _ (numA_neg false (!z) QF)); replace CK7 := Aside0.mk (blk_far CK7.out (p := ⟨g8, 0, none⟩) (by exact N78.out) (.bool (!z))); replace CK4 := Aside0.mk (blk_far CK4.out (p := ⟨g8, 0, none⟩) (by exact N48.out) (.bool (!z))); replace HC := Aside0.mk (below_set (j := 0) (v := .bool (!z)) HC.out GE8.out); refine wpList_load_row rfl 69 (.tmp 8) rfl g8 ?hx 69 (numA (!z) QF) (0, 0) _ CK8.out hu69 rfl (num_info hl) ?_; (case hx => first | (go_simp; done) | rfl))
   | (go_at_call 47; (with_reducible refine (TO _).mono ?_); rintro e' w20 ⟨rfl, hb⟩; replace CK4 := cB hb CK4; replace HC := Aside0.mk (below_step (HC.out) hb); clear hb)
   | ((with_reducible refine gate_dst (N := 13) rfl ?_); refine box_event ?hg (N := 13) ?hd (cs := #[.int .i64 0, .int .u64 0]) (t := 53) ?hr ?_; (case hd => rfl); (case hg => rfl); (case hr => first | (go_simp; done) | (go_simp; rfl)); intro g13 hg w21 hbox hb; have BK13 := Aside0.mk (hbox); have GE13 := Aside0.mk (bG hg (HC.out)); have N413 := cN hg CK4; have N134 := cM hg CK4; replace HC := Aside0.mk (below_step (HC.out) hb); replace CK4 := cB hb CK4; clear hb hbox hg; have y0 := (blk_cell BK13.out 0).trans (rfl : _ = some (Value.int .i64 0)); have yf0 := blk_frozen BK13.out 0; have y1 := (blk_cell BK13.out 1).trans (rfl : _ = some (Value.int .u64 0)); have yf1 := blk_frozen BK13.out 1; have u0 := (blk_cell CK4.out 0).trans (rfl : _ = some (Value.int .i64 0)); have uf0 := blk_frozen CK4.out 0; have u1 := (blk_cell CK4.out 1).trans (rfl : _ = some (Value.int .u64 0)); have uf1 := blk_frozen CK4.out 1; have ha := N413.out; have hbb := N134.out)
   | ((with_reducible refine gate_dst (N := 67) rfl ?_); refine ev_mid ?hw 67 (.tmp 66) rfl g8 1 ?hx _ (ar QF) rfl _ (num_range CK8.out) hu67 rfl (ar_info hl) ?_; (case hx => first | (go_simp; done) | rfl); (case hw => first | rfl | (go_simp; done)))
   | (go_at_call 44; (with_reducible refine (ZR _).mono ?_); rintro e' w19 ⟨rfl, hb⟩; replace CK8 := cB hb CK8; replace CK7 := cB hb CK7; replace CK4 := cB hb CK4; replace HC := Aside0.mk (below_step (HC.out) hb); clear hb; have c7 := (blk_cell CK7.out 0).trans (numA_get0 true N); have c8 := (blk_cell CK8.out 0).trans (numA_get0 false QF); have f8 := blk_frozen CK8.out 0))
     (try simp only [Exit.inBlock, Exit.then])
     refine bodyPost_ret (results_ctt rfl _ _ g4 53 #[.int .i64 o1, .int .u64 o2] (0, 0) _ rfl (blk_put (cs' := #[.int .i64 o1, .int .u64 o2]) (blk_put (blk_far (blk_far CK4.out (p := ⟨g13, 0, none⟩) (by exact N413.out) (.int .i64 o1)) (p := ⟨g13, 1, none⟩) (by exact N413.out) (.int .u64 o2)) 0 _ rfl) 1 _ rfl) Try.underlying53 rfl (by kernel_rfl)) rfl ?_
     exact ⟨rfl, below_set (below_set (below_set (below_set HC.out GE13.out) GE13.out) GE4.out) GE4.out⟩
  | succ gi =>
   have hk := HK.out
   have hout := HO.out
   have dQ0 := dQ1.out
   have zQ0 := zQ1.out
   rw [outN] at hout
   have d1 : decide (0 ≤ ((gi + 1 : Nat) : Int) - 1) = true := decide_eq_true (by omega)
   have q1 : ((gi + 1 : Nat) : Int) - 1 = (gi : Int) := by omega
   have sz : Q.set gi 0 = Q := set_same Q gi (zQ0 gi (by omega))
   obtain ⟨g, eg⟩ : ∃ g, N.getD gi 0 = g := ⟨_, rfl⟩
   rw [eg] at hout
   have gr : 0 ≤ g ∧ g ≤ 65535 := by rw [← eg]; exact dN.2 gi
   have iv := inN_val a1 g (by omega) 16 r 0 HR.out
   obtain ⟨⟨R2, X2⟩, hin⟩ : ∃ p, inN a1 g 16 r 0 = p := ⟨_, rfl⟩
   rw [hin] at hout iv
   dsimp only at hout iv
   have dQ := Aside0.mk (dig_set dQ0 gi X2 (by rw [Int.zero_mul, Int.zero_add, show (1 : Int) * 2 ^ 16 = 65536 by decide] at iv; omega))
   have zQ : ∀ j, j < gi → (Q.set gi X2).getD j 0 = 0 := fun j hj => by rw [Go.Proofs.NumMath.getD_set_ne (D := Q) (i := gi) (j := j) X2 (by omega)]; exact zQ0 j (by omega)
   have i0 : (0 : Int) ≤ gi := by omega
   have i1 : (gi : Int) < 18 := by omega
   clear iv
   rw [q1]
   go_wp2
   go_loopg [9, 11] 16 (fun kb v9 v11 w' => ∃ (r x : Int), v9 = .int .u64 r ∧ v11 = .int .i64 ((kb : Int) - 1) ∧ Aside0 (inN a1 g kb r x = (R2, X2)) ∧ Aside0 (0 ≤ r ∧ r < a1) ∧ Aside0 (kb ≤ 16 ∧ 0 ≤ x ∧ (x + 1) * 2 ^ kb ≤ 65536) ∧ Aside0 (w'.heap[g8]? = some (.cells (numA false (Q.set gi x)) 69 (0, 0))) ∧ Aside0 (w'.heap[g7]? = some (.cells (numA sA N) 69 (0, 0))) ∧ Aside0 (w'.heap[g2]? = some (.cells #[.int .i64 a0_0, .int .u64 a0_1] 53 (0, 0))) ∧ Aside0 (w'.heap[g4]? = some (.cells #[.int .i64 0, .int .u64 0] 53 (0, 0))) ∧ Aside0 (Below w.heap.size w w'))
   case atStart => exact ⟨r, 0, rfl, rfl, ⟨hin⟩, HR, ⟨by decide⟩, ⟨by rw [sz]; exact CK8.out⟩, CK7, CK2, CK4, HC⟩
   case round =>
    clear CK8 CK7 CK2 CK4 HC hin HR
    obtain ⟨r, x, rfl, rfl, HI, HR, HX, DK8, DK7, DK2, DK4, HD⟩ := hrel
    cases gk with
    | zero =>
     have hi := HI.out
     rw [inN] at hi
     obtain ⟨rfl, rfl⟩ := Prod.mk.inj hi
     have d2 : decide (0 ≤ ((0 : Nat) : Int) - 1) = false := rfl
     clear hi HI
     go_wp2
     go_roundg gi
     case measure => exact Nat.lt_succ_self _
     case rel => exact ⟨r, Q.set gi x, rfl, rfl, ⟨hout⟩, HR, ⟨by omega⟩, ⟨dQ.out⟩, ⟨zQ⟩, DK8, DK7, DK2, DK4, HD⟩
    | succ bb =>
     have hx := HX.out
     have hr := HR.out
     have hi := HI.out
     rw [inN] at hi
     have b0 : decide (0 ≤ ((bb + 1 : Nat) : Int) - 1) = true := decide_eq_true (by omega)
     have b1 : ((bb + 1 : Nat) : Int) - 1 = (bb : Int) := by omega
     have cg := (blk_cell DK7.out (1 + gi)).trans (numA_get (b := sA) (by rw [hN]; omega : gi < N.length))
     have lQ : gi < (Q.set gi x).length := by rw [List.length_set, dQ0.1]; omega
     have cq := (blk_cell DK8.out (1 + gi)).trans (numA_get (b := false) lQ)
     rw [getD_set_eq x (by rw [dQ0.1]; omega)] at cq
     have fq := blk_frozen DK8.out (1 + gi)
     rw [eg] at cg
     rw [b1]
     have nn7 := N78.out
     have nn8 := N87.out
     have p0 : (0 : Int) < 2 ^ bb := Int.pow_pos (by decide)
     have p1 : (2 : Int) ^ (bb + 1) = 2 * 2 ^ bb := by rw [Int.pow_succ, Int.mul_comm]
     have gd : 0 ≤ g / 2 ^ bb ∧ g / 2 ^ bb ≤ 65535 := ⟨Int.ediv_nonneg gr.1 (by omega), Int.le_trans (Int.ediv_le_self _ gr.1) gr.2⟩
     have e1 := and_one (g / 2 ^ bb) gd.1 (by omega)
     obtain ⟨t, et⟩ : ∃ t, g / 2 ^ bb % 2 = t := ⟨_, rfl⟩
     have t0 : 0 ≤ t ∧ t ≤ 1 := by omega
     rw [et] at e1 hi
     have e2 : IntKind.u64.wrap t = t := (show t % 18446744073709551616 = t by omega)
     obtain ⟨v, ev⟩ : ∃ v, 2 * r + t = v := ⟨_, rfl⟩
     have e3 : IntKind.u64.wrap (r * 2 + t) = v := (show (r * 2 + t) % 18446744073709551616 = v by omega)
     have e4 : IntKind.u64.wrap a1 = a1 := (show a1 % 18446744073709551616 = a1 by omega)
     have hx2 : (x + 1) * 2 ≤ 65536 := by
      have := Int.mul_le_mul_of_nonneg_left (show (2 : Int) ≤ 2 ^ (bb + 1) by omega) (show 0 ≤ x + 1 by omega)
      omega
     have m2 : wrap64 (x * 2) = 2 * x := by unfold wrap64; omega
     rw [ev] at hi
     have hxx : (2 * x + 1 + 1) * 2 ^ bb = (x + 1) * 2 ^ (bb + 1) := by rw [p1]; grind
     have hxy : (2 * x + 1) * 2 ^ bb + 2 ^ bb = (x + 1) * 2 ^ (bb + 1) := by rw [p1]; grind
     have AX := Aside0.mk hx
     have AV := Aside0.mk (And.intro ev (And.intro t0 hr))
     have AY := Aside0.mk (And.intro hxx (And.intro hxy p0))
     by_cases c : a1 ≤ v
     · rw [if_pos c] at hi
       have d3 : decide (a1 ≤ v) = true := decide_eq_true c
       have e5 : IntKind.u64.wrap (v - a1) = v - a1 := (show (v - a1) % 18446744073709551616 = v - a1 by omega)
       have m3 : wrap64 (2 * x + 1) = 2 * x + 1 := by unfold wrap64; omega
       clear hxx hxy hx2 lQ p0 p1
       go_wp2
       go_roundg bb
       case measure => exact Nat.lt_succ_self _
       case rel =>
        have ax := AX.out
        have av := AV.out
        have ay := AY.out
        refine ⟨v - a1, 2 * x + 1, rfl, rfl, ⟨hi⟩, ⟨by omega⟩, ⟨by omega⟩, ⟨?_⟩, ⟨?_⟩, ⟨?_⟩, ⟨?_⟩, ⟨?_⟩⟩
        · refine blk_put (blk_put DK8.out (1 + gi) _ rfl) (1 + gi) _ ?_
          rw [numA_set, numA_set, List.set_set, List.set_set]
        · exact blk_far (blk_far DK7.out (by exact N78.out) _) (by exact N78.out) _
        · exact blk_far (blk_far DK2.out (by exact N28.out) _) (by exact N28.out) _
        · exact blk_far (blk_far DK4.out (by exact N48.out) _) (by exact N48.out) _
        · exact below_set (below_set HD.out GE8.out) GE8.out
     · rw [if_neg c] at hi
       have d3 : decide (a1 ≤ v) = false := decide_eq_false c
       clear hxx hxy hx2 lQ p0 p1
       go_wp2
       go_roundg bb
       case measure => exact Nat.lt_succ_self _
       case rel =>
        have ax := AX.out
        have av := AV.out
        have ay := AY.out
        refine ⟨v, 2 * x, rfl, rfl, ⟨hi⟩, ⟨by omega⟩, ⟨by omega⟩, ⟨?_⟩, ⟨?_⟩, ⟨?_⟩, ⟨?_⟩, ⟨?_⟩⟩
        · refine blk_put DK8.out (1 + gi) _ ?_
          rw [numA_set, List.set_set]
        · exact blk_far DK7.out (by exact N78.out) _
        · exact blk_far DK2.out (by exact N28.out) _
        · exact blk_far DK4.out (by exact N48.out) _
        · exact below_set HD.out GE8.out
end Go.Proofs.Ytfmbophennepdaa.G

namespace Go.Proofs.Ytfmbophennepdaa.G
open Go.RowKit Go.Proofs.NumMath Go.Proofs.YtfmbophennepdaaW.PrintWords Go.Proofs.YtfmbophennepdaaW.PrintLast Go.Proofs.YtfmbophennepdaaW.PrintMore
set_option linter.unusedVariables false
set_option linter.unusedSimpArgs false
theorem neg_div {M d : Int} (hd : 0 < d) : (M % d = 0 → -M / d = -(M / d) ∧ -M % d = 0) ∧ (M % d ≠ 0 → -M / d = -(M / d) + -1 ∧ -M % d = d - M % d) := by
  have mq := Int.mul_ediv_add_emod M d
  have m0 := Int.emod_nonneg M (show d ≠ 0 by omega)
  have m1 := Int.emod_lt_of_pos M hd
  constructor
  · intro z
    have e : -M = d * (-(M / d)) := by
      have : d * (-(M / d)) = -(d * (M / d)) := by grind
      omega
    constructor
    · conv => lhs; rw [e]
      rw [Int.mul_ediv_cancel_left _ (by omega)]
    · conv => lhs; rw [e]
      rw [Int.mul_emod_right]
  · intro z
    have e : -M = (d - M % d) + d * (-(M / d) - 1) := by
      have : d * (-(M / d) - 1) = -(d * (M / d)) - d := by grind
      omega
    constructor
    · conv => lhs; rw [e]
      rw [Int.add_mul_ediv_left _ _ (by omega), Int.ediv_eq_zero_of_lt (by omega) (by omega)]
      omega
    · conv => lhs; rw [e]
      rw [Int.add_mul_emod_self_left, Int.emod_eq_of_lt (by omega) (by omega)]
def relievoref01_Div.f (a0_0 a0_1 a1 : Int) : Option (Int × Int × Int × Bool) :=
  if (-9223372036854775808 ≤ a0_0 ∧ a0_0 ≤ 9223372036854775807) ∧ (0 ≤ a0_1 ∧ a0_1 < 18446744073709551616) ∧ (-9223372036854775808 ≤ a1 ∧ a1 ≤ 9223372036854775807) then
    some (if a1 < 1 then (0, 0, 0, false) else ((wideV ((a0_0 * 18446744073709551616 + a0_1) / a1)).1, (wideV ((a0_0 * 18446744073709551616 + a0_1) / a1)).2.1, (a0_0 * 18446744073709551616 + a0_1) % a1, (wideV ((a0_0 * 18446744073709551616 + a0_1) / a1)).2.2)) else none
set_option maxHeartbeats 1000000 in
set_option maxRecDepth 100000 in
theorem div_small (a0_0 a0_1 a1 : Int) (w : World) (hd : a1 < 1) :
    Calls Try.prog 33 #[.agg #[.int .i64 a0_0, .int .u64 a0_1], .int .i64 a1] w fun e w' => e = .returned (.tuple #[.agg #[.int .i64 0, .int .u64 0], .int .i64 0, .bool false]) ∧ Below w.heap.size w w' := by
 have hu53 := Try.underlying53
 have HB := Aside0.mk (Below.refl w.heap.size w)
 go_enter Try.func33, Try.ntmps33
 go_wp2_with (first
  | ((with_reducible refine gate_dst (N := 2) rfl ?_); refine box_event ?hg (N := 2) ?hd (cs := #[.int .i64 a0_0, .int .u64 a0_1]) (t := 53) ?hr ?_; (case hd => rfl); (case hg => rfl); (case hr => first | (go_simp; done) | (go_simp; rfl)); intro g2 hg w3 hbox hb; have BK2 := Aside0.mk (hbox); replace HB := Aside0.mk (below_step (HB.out) hb); clear hb hbox hg)
  | ((with_reducible refine gate_dst (N := 4) rfl ?_); refine box_event ?hg (N := 4) ?hd (cs := #[.int .i64 0, .int .u64 0]) (t := 53) ?hr ?_; (case hd => rfl); (case hg => rfl); (case hr => first | (go_simp; done) | (go_simp; rfl)); intro g4 hg w4 hbox hb; have BK4 := Aside0.mk (hbox); have GE4 := Aside0.mk (bG hg (HB.out)); replace HB := Aside0.mk (below_step (HB.out) hb); clear hb hbox hg; have y0 := (blk_cell BK4.out 0).trans (rfl : _ = some (Value.int .i64 0)); have yf0 := blk_frozen BK4.out 0; have y1 := (blk_cell BK4.out 1).trans (rfl : _ = some (Value.int .u64 0)); have yf1 := blk_frozen BK4.out 1))
 refine bodyPost_ret (results_ctt rfl _ _ g4 53 #[.int .i64 0, .int .u64 0] (0, 0) _ rfl (blk_put (cs' := #[.int .i64 0, .int .u64 0]) (blk_put BK4.out 0 _ rfl) 1 _ rfl) Try.underlying53 rfl (by kernel_rfl)) rfl ?_
 exact ⟨rfl, below_set (below_set HB.out GE4.out) GE4.out⟩
theorem relievoref01_Div.calls (a0_0 a0_1 a1 : Int) (r1 r2 r3 : Int) (r4 : Bool) (w : World) (h : relievoref01_Div.f a0_0 a0_1 a1 = some (r1, r2, r3, r4)) :
    Calls Try.prog 33 #[.agg #[.int .i64 a0_0, .int .u64 a0_1], .int .i64 a1] w fun e w' => e = .returned (.tuple #[.agg #[.int .i64 r1, .int .u64 r2], .int .i64 r3, .bool r4]) ∧ Below w.heap.size w w' := by
  have hr : (-9223372036854775808 ≤ a0_0 ∧ a0_0 ≤ 9223372036854775807) ∧ (0 ≤ a0_1 ∧ a0_1 < 18446744073709551616) ∧ (-9223372036854775808 ≤ a1 ∧ a1 ≤ 9223372036854775807) := by
    unfold relievoref01_Div.f at h
    split at h
    · assumption
    · simp at h
  unfold relievoref01_Div.f at h
  rw [if_pos hr] at h
  obtain ⟨h0, h1, hd⟩ := hr
  by_cases c : a1 < 1
  · rw [if_pos c] at h
    simp only [Option.some.injEq, Prod.mk.injEq] at h
    obtain ⟨rfl, rfl, rfl, rfl⟩ := h
    exact div_small a0_0 a0_1 a1 w c
  rw [if_neg c] at h
  simp only [Option.some.injEq, Prod.mk.injEq] at h
  obtain ⟨rfl, rfl, rfl, rfl⟩ := h
  obtain ⟨sA, N, nv, FR⟩ := fromV a0_0 a0_1 h0 h1
  obtain ⟨s1, D1, nv1, F1⟩ := fromIntV (-1) (by decide)
  obtain ⟨A, hA⟩ : ∃ A, a0_0 * 18446744073709551616 + a0_1 = A := ⟨_, rfl⟩
  have bA : -170141183460469231731687303715884105728 ≤ A ∧ A ≤ 170141183460469231731687303715884105727 := by omega
  rw [hA] at nv ⊢
  obtain ⟨⟨RF, QF⟩, ho⟩ : ∃ p, outN a1 N 18 0 Z18 = p := ⟨_, rfl⟩
  have ov := outN_val a1 N nv.dig (by omega) 18 0 Z18 (Nat.le_refl _) (by omega) dig_zero (fun j hj => (by decide : ∀ n, n < 18 → Z18.getD n 0 = 0) j hj)
  rw [ho] at ov
  dsimp only at ov
  obtain ⟨dq, hrf, e⟩ := ov
  rw [val_zero, Int.zero_mul, Int.zero_mul, Int.zero_add, Int.zero_add, nv.val] at e
  obtain ⟨M, hM⟩ : ∃ M, absI A = M := ⟨_, rfl⟩
  have M0 : 0 ≤ M ∧ M ≤ 170141183460469231731687303715884105728 := by rw [← hM]; unfold absI; split <;> omega
  rw [hM] at e
  have vq : val QF 18 = M / a1 := by
    rw [← e, Int.add_comm, Int.mul_comm, Int.add_mul_ediv_left _ _ (by omega), Int.ediv_eq_zero_of_lt hrf.1 hrf.2, Int.zero_add]
  have vr : RF = M % a1 := by
    rw [← e, Int.add_comm, Int.mul_comm, Int.add_mul_emod_self_left, Int.emod_eq_of_lt hrf.1 hrf.2]
  have q0 : 0 ≤ M / a1 := Int.ediv_nonneg M0.1 (by omega)
  have q1 : M / a1 ≤ M := Int.ediv_le_self _ M0.1
  have zq := zero_iff dq
  rw [vq] at zq
  have NG : A < 0 → NumV (!(QF == Z18)) QF (-(M / a1)) := fun a => ⟨dq, by
    rw [zq]
    by_cases b : M / a1 = 0
    · rw [decide_eq_true b, decide_eq_false (by omega)]; rfl
    · rw [decide_eq_false b, decide_eq_true (by omega)]; rfl, by
    rw [vq]
    unfold absI
    split <;> omega⟩
  refine div_walk a0_0 a0_1 a1 _ _ _ _ (QF == Z18) sA s1 N QF D1 RF w ⟨by omega, hd.2⟩ nv.dig dq.1 nv1.len (fun w => zero.calls QF dq.1 w) F1 (fun s => ?_) (fun s r => ?_) (fun s r => ?_) FR ho
  · rw [nv.sign, decide_eq_false_iff_not] at s
    have eM : A = M := by rw [← hM]; unfold absI; rw [if_neg s]
    have n1 : NumV false QF (A / a1) := ⟨dq, by rw [eM, decide_eq_false (by omega)], by rw [vq, eM]; unfold absI; rw [if_neg (by omega)]⟩
    exact ⟨fun w => toV n1 w, by rw [vr, eM]⟩
  · rw [nv.sign, decide_eq_true_eq] at s
    have eM : A = -M := by rw [← hM]; unfold absI; rw [if_pos s]; omega
    have nd := (neg_div (M := M) (d := a1) (by omega)).1 (by omega)
    have n1 := NG s
    rw [← nd.1, ← eM] at n1
    exact ⟨fun w => toV n1 w, by rw [eM, nd.2, r]⟩
  · rw [nv.sign, decide_eq_true_eq] at s
    have eM : A = -M := by rw [← hM]; unfold absI; rw [if_pos s]; omega
    have nd := (neg_div (M := M) (d := a1) (by omega)).2 (by omega)
    obtain ⟨s3, D3, n3, PL⟩ := plusV (NG s) nv1 (by unfold absI; split <;> omega) (by decide)
    rw [← nd.1, ← eM] at n3
    exact ⟨s3, D3, n3.len, PL, fun w => toV n3 w, by rw [eM, nd.2, vr]⟩
end Go.Proofs.Ytfmbophennepdaa.G
