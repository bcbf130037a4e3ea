/- What Index answers over a cache's entries, and Tally. -/
import Derived.Test.YtfhjdhhflpekiaaCKA
namespace Go.Proofs.Ytfhjdhhflpekiaa.G
open Go.RowKit Go.Proofs.Cache Go.Proofs.YtfhjdhhflpekiaaW.PrintWords Go.Proofs.YtfhjdhhflpekiaaW.PrintLast Go.Proofs.YtfhjdhhflpekiaaW.PrintMore
set_option linter.unusedVariables false
set_option linter.unusedSimpArgs false
theorem nodup_ne {l : List Ent} (h : (l.map Ent.b).Nodup) {i j : Nat} (hi : i < l.length) (hj : j < l.length) (hij : i ≠ j) : (l.getD i dE).b ≠ (l.getD j dE).b := by
  rw [List.getD_eq_getElem?_getD, List.getD_eq_getElem?_getD, List.getElem?_eq_getElem hi, List.getElem?_eq_getElem hj]
  intro e
  simp only [Option.getD_some] at e
  have := List.getElem_inj (h₀ := by simpa using hi) (h₁ := by simpa using hj) h (i := i) (j := j)
  simp only [List.getElem_map] at this
  exact hij (this.1 e)
set_option maxHeartbeats 1000000 in
set_option maxRecDepth 100000 in
theorem index.calls (B : Bd) (v : Value) (l : List Ent) (w : World) (k : Nat) (hk : k < l.length) (h : w.ownsRow B 62 1 v l.length (ptrs l)) (he : ∀ e ∈ l, EntAt B w e) (hn : (l.map Ent.b).Nodup) :
    Calls Try.prog 33 #[v, (l.getD k dE).p] w fun x w' => x = .returned (.int .i64 k) ∧ Drawn0 w w' := by
  obtain ⟨A, c, rfl, hc, hm, hg⟩ := kv_open h
  have HG := Aside0.mk hg
  clear hg
  have HN := fun i j (hi : i < l.length) (hj : j < l.length) hij => nodup_ne hn (i := i) (j := j) hi hj hij
  have HN3 := fun j hj => (he _ (getE (l := l) (j := j) hj)).cells
  have H1 := Aside0.mk HN
  have H3 := Aside0.mk HN3
  have hmx : (l.length : Int) ≤ 9223372036854775807 := by unfold maxLen at hm; omega
  clear HN HN3 he hn hm h
  generalize l.getD = q at *
  generalize l.length = n at *
  unfold Ent.p at HG ⊢
  go_enter Try.func33, Try.ntmps33
  go_wp2
  go_loopg [8] n (fun kq v8 w' => ∃ j : Nat, v8 = .int .i64 j ∧ Aside0 (j + kq = n) ∧ Aside0 (j ≤ k) ∧ Drawn0 w w')
  case atStart => exact ⟨0, rfl, ⟨by omega⟩, ⟨by omega⟩, Drawn0.refl _⟩
  case round =>
    obtain ⟨j, rfl, HJ, HP, ⟨m1, rfl⟩⟩ := hrel
    have hj := HJ.out
    have hp := HP.out
    have hlt : j < n := by omega
    have c1 : decide ((j : Int) < (n : Int)) = true := decide_eq_true (by omega)
    have i0 : 0 ≤ (j : Int) := by omega
    have i1 : (j : Int) < (n : Int) := by omega
    obtain ⟨g, rfl, hcj⟩ := HG.out j hlt
    cases gk with
    | zero => omega
    | succ k1 =>
      by_cases e : j = k
      · subst e
        have E := eql_same (q j dE).b
        go_wp2
        go_ret
        exact ⟨rfl, by repeat (first | exact Drawn0.refl _ | apply Drawn0.step)⟩
      · have hne := H1.out j k hlt hk e
        have E : ∀ m, Sem.run Try.prog (binOp .eql 62 (.pointer (some ⟨(q k dE).b, 0, none⟩)) (.pointer (some ⟨(q j dE).b, 0, none⟩))) (w.drewN m) = .ok (.bool false) (w.drewN m) := fun m => eql_other (w := w.drewN m) hne.symm (H3.out k hk) (H3.out j hlt)
        clear hne
        go_wp2
        go_roundg k1
        case measure => omega
        case rel => exact ⟨j + 1, by simp, ⟨by omega⟩, ⟨by omega⟩, by repeat (first | exact Drawn0.refl _ | apply Drawn0.step)⟩
set_option maxHeartbeats 1000000 in
set_option maxRecDepth 100000 in
theorem tally.calls (B : Bd) (sizes : List Int) (s : Cs) (w : World) (h : CacheAt B sizes w s) :
    Calls Try.prog 20 #[.pointer (some ⟨s.g, 0, none⟩)] w fun x w' => x = .returned (.agg #[.int .i64 s.p.tb, .int .i64 s.p.td, .int .i64 s.p.tp, .int .i64 s.p.tm]) ∧ Below w.heap.size w w' := by
  have hu32 := Try.underlying32
  have BC := Aside0.mk h.cells
  have HB := Aside0.mk (Below.refl w.heap.size w)
  unfold Cs.cs at BC
  clear h
  go_enter Try.func20, Try.ntmps20
  go_wp2_with (first
   | ((with_reducible refine gate_dst (N := 2) rfl ?_); refine box_event ?hg (N := 2) ?hd (cs := #[.int .i64 0, .int .i64 0, .int .i64 0, .int .i64 0]) (t := 32) ?hr ?_; (case hd => rfl); (case hg => rfl); (case hr => first | (go_simp; done) | (go_simp; rfl)); intro g2 hg w3 hbox hb; have BK2 := Aside0.mk (hbox); have GE2 := Aside0.mk (bG hg (HB.out)); replace HB := Aside0.mk (below_step (HB.out) hb); replace BC := cB hb BC; clear hb hbox hg)
   | ((with_reducible refine gate_dst (N := 6) rfl ?_); refine ev_mid (by rfl) 32 (.tmp 5) rfl s.g 5 ?hx [.int .i64 s.p.tb, .int .i64 s.p.td, .int .i64 s.p.tp, .int .i64 s.p.tm] _ rfl _ ?hr hu32 rfl (by kernel_rfl) ?_; (case hx => first | (go_simp; done) | rfl); (case hr => exact range_of BC.out 5 _ (by rintro (_ | _ | _ | _ | j) v hv <;> simp_all)))
   | ((with_reducible refine gate_store2 (t := 32) (x := .tmp 2) (y := .tmp 6) rfl ?_); refine ev_row rfl 32 (.tmp 2) (.tmp 6) rfl rfl g2 #[.int .i64 s.p.tb, .int .i64 s.p.td, .int .i64 s.p.tp, .int .i64 s.p.tm] ?hx ?hy 32 _ BK2.out (by kernel_rfl) rfl (by simp [Value.oneCell']) HB.out GE2.out ?_; (case hx => first | (go_simp; done) | rfl); (case hy => first | (go_simp; done) | rfl | (go_simp; rfl)); intro w5 hbox hb hk; replace BK2 := Aside0.mk hbox; replace HB := Aside0.mk hb; clear hbox hb hk))
  refine bodyPost_ret (results_cell_row rfl _ _ g2 32 _ (0, 0) _ rfl BK2.out Try.underlying32 rfl (by kernel_rfl)) rfl ?_
  exact ⟨rfl, HB.out⟩
end Go.Proofs.Ytfhjdhhflpekiaa.G
