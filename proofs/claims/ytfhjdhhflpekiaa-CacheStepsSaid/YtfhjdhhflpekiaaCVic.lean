/- Which of a cache's entries is dropped. -/
import Derived.Test.YtfhjdhhflpekiaaCMin
import Derived.Test.YtfhjdhhflpekiaaCIdx
import Derived.Test.YtfhjdhhflpekiaaCKA
namespace Go.Proofs.Ytfhjdhhflpekiaa.G
open Go.RowKit Go.Proofs.Cache Go.Proofs.YtfhjdhhflpekiaaW.PrintWords Go.Proofs.YtfhjdhhflpekiaaW.PrintLast Go.Proofs.YtfhjdhhflpekiaaW.PrintMore
set_option linter.unusedVariables false
set_option linter.unusedSimpArgs false
theorem emod_yes {x n : Int} (hn : 0 < n) (h : ¬ x.tmod n < 0) : x.tmod n = x % n := by
  rw [Int.emod_def, Int.tmod_def]
  have a := Int.tmod_def x n
  have b1 := Int.emod_nonneg x (show n ≠ 0 by omega)
  have b2 := Int.emod_lt_of_pos x hn
  rw [Int.emod_def] at b1 b2
  have c1 := Int.tmod_lt_of_pos x hn
  rw [a] at h c1
  have e : n * (x.tdiv n - x / n) < n * 1 := by rw [Int.mul_sub]; omega
  have e' : n * (-1) < n * (x.tdiv n - x / n) := by rw [Int.mul_sub]; omega
  have f := Int.lt_of_mul_lt_mul_left e (by omega)
  have f' := Int.lt_of_mul_lt_mul_left e' (by omega)
  have : x.tdiv n = x / n := by omega
  rw [this]
theorem emod_no {x n : Int} (hn : 0 < n) (h : x.tmod n < 0) : x.tmod n + n = x % n := by
  have a := Int.tmod_def x n
  have b1 := Int.emod_nonneg x (show n ≠ 0 by omega)
  have b2 := Int.emod_lt_of_pos x hn
  have c0 : -n < x.tmod n := by
    have := Int.tmod_lt_of_pos (-x) hn
    rw [Int.neg_tmod] at this
    omega
  rw [Int.emod_def] at b1 b2 ⊢
  rw [a] at h c0 ⊢
  have e : n * (x.tdiv n - x / n) < n * 2 := by rw [Int.mul_sub]; omega
  have e' : n * 0 < n * (x.tdiv n - x / n) := by rw [Int.mul_sub]; omega
  have f := Int.lt_of_mul_lt_mul_left e (by omega)
  have f' := Int.lt_of_mul_lt_mul_left e' (by omega)
  have : x.tdiv n = x / n + 1 := by omega
  rw [this, Int.mul_add]
  omega
theorem cs_set1 (s : Cs) (A : Option Addr) (c : Nat) (l : List Int) : s.cs.setIfInBounds 1 (.slice A l.length c) = { s with pA := A, pc := c, p := { s.p with picks := l } }.cs := by
  simp [Cs.cs]
def Vic (B : Bd) (sizes : List Int) (w : World) (s : Cs) (k : Nat) (l : List Int) (e : Ending) (w' : World) : Prop :=
  e = .returned (.int .i64 k) ∧ ∃ s', s'.p = { s.p with picks := l } ∧ s'.kv = s.kv ∧ s'.ents = s.ents ∧ Left B sizes NoX w s w' s'
theorem CacheAt.picks' {B : Bd} {sizes : List Int} {w : World} {s : Cs} (h : CacheAt B sizes w s) (A : Option Addr) (c : Nat) (l : List Int) (hr : Rd (Kd.int .i64) B w A l) (hc : l.length ≤ c) (n : Nat) :
    Left B sizes NoX w s ((w.drewN n).setCell ⟨s.g, 1, none⟩ (.slice A l.length c)) { s with pA := A, pc := c, p := { s.p with picks := l } } := by
  have h1 := h.drewN n
  have fr : Frame B w ((w.drewN n).setCell ⟨s.g, 1, none⟩ (.slice A l.length c)) (Mut s) :=
    (Frame.of_below (pw_below_drewN (Below.refl _ _) n) (Nat.le_trans h.lo (Nat.le_of_lt (blk_lt h.cells))) (Mut s)).trans (Frame.set (w := w.drewN n) h.lo (.inl rfl) _ _) (fun i hi => .inl hi)
  have m := h.still fr
  have far : ∀ k, k ≠ s.g → ((w.drewN n).setCell ⟨s.g, 1, none⟩ (.slice A l.length c)).heap[k]? = w.heap[k]? := fun k hk => Below.heap_setCell (w.drewN n) ⟨s.g, 1, none⟩ _ k hk
  exact {
    at_ := {
      cells := blk_put h1.cells 1 _ (cs_set1 s A c l)
      lo := h.lo
      made := h.made.move m
      picks := hr.int m
      pc := hc
      kv := own_move h.kv fun k hk => far k (fun q => h.kv_ne_g (q ▸ hk))
      kept := h.kept
      ents := fun e he => ⟨(far _ (h.g_ne_e he).symm).trans (h.ents e he).cells, (h.ents e he).lo, (h.ents e he).mesh.move m⟩
      nodup := h.nodup
      nlt := fun k hk => Nat.lt_of_lt_of_le (h.nlt k hk) m.size }
    g := rfl
    mb := rfl
    frame := fr
    own := fun k hk => .inl hk }
theorem CacheAt.next {B : Bd} {sizes : List Int} {w : World} {s : Cs} (h : CacheAt B sizes w s) {x : Int} {r : List Int} (hp : s.p.picks = x :: r) {ad : Addr} (hA : s.pA = some ad) :
    Rd (Kd.int .i64) B w (if s.pc = 1 then some ad else some ⟨ad.block, ad.off + 1, none⟩) r := by
  have hC := Kd.C_drop h.picks.1 (m := 1) (c := s.pc) (by rw [hp]; simp) h.pc
  have e : (if s.pc = 1 then s.pA else s.pA.map (·.add (1 * (Kd.int .i64).sz))) = if s.pc = 1 then some ad else some ⟨ad.block, ad.off + 1, none⟩ := by
    rw [hA]
    show (if s.pc = 1 then some ad else some (ad.add (1 * 1))) = _
    simp [Addr.add]
  rw [e, hp] at hC
  refine ⟨hC, fun hn a ha => ?_⟩
  have hs := h.picks.2 (by rw [hp]; simp) ad hA
  have hb : a.block = ad.block := by
    by_cases c : s.pc = 1
    · rw [if_pos c] at ha
      cases ha
      rfl
    · rw [if_neg c] at ha
      cases ha
      rfl
  rw [hb]
  exact hs
set_option maxHeartbeats 1000000 in
set_option maxRecDepth 100000 in
theorem victimA.calls (B : Bd) (sizes : List Int) (s : Cs) (w : World) (x : Int) (r : List Int) (h : CacheAt B sizes w s) (hp : s.p.picks = x :: r) (h0 : 0 < s.ents.length) (hl : s.ents.length ≤ 1000000) :
    Calls Try.prog 28 #[.pointer (some ⟨s.g, 0, none⟩)] w (Vic B sizes w s (victimK s.p) r) := by
  obtain ⟨A, c, ek, hc, hm, hg⟩ := kv_open h.kv
  clear hg
  have hkk : s.p.kept.length = s.ents.length := by rw [h.kept, List.length_map]
  have c3 : w.cell? ⟨s.g, 3, none⟩ = some (.slice A s.ents.length c) := by rw [← ek]; exact (blk_cell h.cells 3).trans rfl
  have c1 : w.cell? ⟨s.g, 1, none⟩ = some (.slice s.pA (r.length + 1) s.pc) := by
    refine (blk_cell h.cells 1).trans ?_
    show some (Value.slice s.pA s.p.picks.length s.pc) = _
    rw [hp]
    rfl
  have hpc : r.length + 1 ≤ s.pc := by have := h.pc; rw [hp] at this; exact this
  obtain ⟨ad, hA, hx⟩ : ∃ ad, s.pA = some ad ∧ w.cell? ad = some (.int .i64 x) := by
    obtain ⟨ad, e, hcell⟩ := Kd.at_int h.picks.1 0 (Int.le_refl _) (by rw [hp]; simp)
    refine ⟨ad, e, ?_⟩
    rw [hp] at hcell
    simpa [rd, Addr.add] using hcell
  rw [hA] at c1
  have hvk : victimK s.p = (x % (s.ents.length : Int)).toNat := by unfold victimK; rw [hp, hkk]
  have f1 := blk_frozen h.cells 1
  have hn := h.next hp hA
  have hv0 := Int.emod_nonneg x (show (s.ents.length : Int) ≠ 0 by omega)
  have hv1 := Int.emod_lt_of_pos x (show 0 < (s.ents.length : Int) by omega)
  have V : Aside0 (∀ (A : Option Addr) (c n : Nat) (i : Int), Rd (Kd.int .i64) B w A r → r.length ≤ c → i = x % (s.ents.length : Int) → Vic B sizes w s (victimK s.p) r (.returned (.int .i64 i)) ((w.drewN n).setCell ⟨s.g, 1, none⟩ (.slice A r.length c))) := ⟨fun A c n i h1 h2 h3 =>
    ⟨by rw [hvk, h3]; congr 2; omega, { s with pA := A, pc := c, p := { s.p with picks := r } }, rfl, rfl, rfl, h.picks' A c r h1 h2 n⟩⟩
  generalize victimK s.p = vk at V ⊢
  have e2 := Aside0.mk (And.intro hv0 hv1)
  by_cases sg : x.tmod (s.ents.length : Int) < 0
  · have e1 := Aside0.mk (emod_no (x := x) (n := (s.ents.length : Int)) (by omega) sg)
    have d1 : decide (x.tmod (s.ents.length : Int) < 0) = true := decide_eq_true sg
    by_cases cc : s.pc = 1
    · rw [if_pos cc] at hn
      have N := Aside0.mk hn
      have PC := Aside0.mk hpc
      clear hpc hvk hkk ek hm hp hA h hn hv0 hv1 sg
      generalize s.pc = q at *
      subst cc
      have hn0 : ¬ ((s.ents.length : Int) = 0) := by omega
      go_enter Try.func28, Try.ntmps28
      go_wp2
      go_quiet (fail)
      go_wp2
      go_ret
      exact V.out _ _ _ _ N.out (by have := PC.out; omega) (by have h1 := e1.out; have h2 := e2.out; unfold wrap64; omega)
    · rw [if_neg cc] at hn
      have N := Aside0.mk hn
      have PC := Aside0.mk hpc
      clear hpc hvk hkk ek hm hp hA h hn hv0 hv1 sg
      generalize s.pc = q at *
      have cb : ¬ (q = 1) := cc
      have hn0 : ¬ ((s.ents.length : Int) = 0) := by omega
      go_enter Try.func28, Try.ntmps28
      go_wp2
      go_quiet (fail)
      go_wp2
      go_ret
      exact V.out _ _ _ _ N.out (by have := PC.out; omega) (by have h1 := e1.out; have h2 := e2.out; unfold wrap64; omega)
  · have e1 := Aside0.mk (emod_yes (x := x) (n := (s.ents.length : Int)) (by omega) sg)
    have d1 : decide (x.tmod (s.ents.length : Int) < 0) = false := decide_eq_false sg
    by_cases cc : s.pc = 1
    · rw [if_pos cc] at hn
      have N := Aside0.mk hn
      have PC := Aside0.mk hpc
      clear hpc hvk hkk ek hm hp hA h hn hv0 hv1 sg
      generalize s.pc = q at *
      subst cc
      have hn0 : ¬ ((s.ents.length : Int) = 0) := by omega
      go_enter Try.func28, Try.ntmps28
      go_wp2
      go_quiet (fail)
      go_wp2
      go_ret
      exact V.out _ _ _ _ N.out (by have := PC.out; omega) e1.out
    · rw [if_neg cc] at hn
      have N := Aside0.mk hn
      have PC := Aside0.mk hpc
      clear hpc hvk hkk ek hm hp hA h hn hv0 hv1 sg
      generalize s.pc = q at *
      have cb : ¬ (q = 1) := cc
      have hn0 : ¬ ((s.ents.length : Int) = 0) := by omega
      go_enter Try.func28, Try.ntmps28
      go_wp2
      go_quiet (fail)
      go_wp2
      go_ret
      exact V.out _ _ _ _ N.out (by have := PC.out; omega) e1.out
theorem kept_asked {B : Bd} {sizes : List Int} {w : World} {s : Cs} (h : CacheAt B sizes w s) : s.p.kept.map (·.asked) = s.ents.map (·.asked) := by
  rw [h.kept, List.map_map]
  rfl
set_option maxHeartbeats 1000000 in
set_option maxRecDepth 100000 in
theorem victimB.calls (B : Bd) (sizes : List Int) (s : Cs) (w : World) (h : CacheAt B sizes w s) (hp : s.p.picks = []) (h0 : 0 < s.ents.length) :
    Calls Try.prog 28 #[.pointer (some ⟨s.g, 0, none⟩)] w (Vic B sizes w s (victimK s.p) []) := by
  have c3 : w.cell? ⟨s.g, 3, none⟩ = some s.kv := (blk_cell h.cells 3).trans rfl
  have c1 : w.cell? ⟨s.g, 1, none⟩ = some (.slice s.pA 0 s.pc) := by
    refine (blk_cell h.cells 1).trans ?_
    show some (Value.slice s.pA s.p.picks.length s.pc) = _
    rw [hp]
    rfl
  have hkk : s.p.kept.length = s.ents.length := by rw [h.kept, List.length_map]
  have hvk : victimK s.p = minAt (s.ents.map (·.asked)) s.ents.length := by unfold victimK; rw [hp, hkk, kept_asked h]
  have hlt := minAt_lt (s.ents.map (·.asked)) s.ents.length h0
  have M := fun n => minFunc.calls B s.kv s.ents (w.drewN n) (h.drewN n).kv (h.drewN n).ents h0
  have I := fun n => index.calls B s.kv s.ents (w.drewN n) _ hlt (h.drewN n).kv (h.drewN n).ents h.nodup
  have V : Aside0 (∀ n, Vic B sizes w s (victimK s.p) [] (.returned (.int .i64 (minAt (s.ents.map (·.asked)) s.ents.length))) (w.drewN n)) := ⟨fun n => ⟨by rw [hvk], s, by rw [← hp], rfl, rfl, Left.drewN h n⟩⟩
  have M0 := M 0
  clear hvk hkk hp h hlt h0
  rw [show w.drewN 0 = w from rfl] at M0
  generalize s.kv = kv at *
  generalize (s.ents.getD (minAt (s.ents.map (·.asked)) s.ents.length) dE).p = pp at *
  generalize minAt (s.ents.map (·.asked)) s.ents.length = mm at *
  go_enter Try.func28, Try.ntmps28
  go_wp2_with (first
   | (go_at_call 30; (with_reducible refine M0.mono ?_); rintro e w' ⟨rfl, ⟨m2, rfl⟩⟩)
   | (go_at_call 33; (with_reducible refine (I _).mono ?_); rintro e w' ⟨rfl, ⟨m3, rfl⟩⟩))
  go_ret
  exact V.out _
theorem victim.calls (B : Bd) (sizes : List Int) (s : Cs) (w : World) (h : CacheAt B sizes w s) (h0 : 0 < s.ents.length) (hl : s.ents.length ≤ 1000000) :
    Calls Try.prog 28 #[.pointer (some ⟨s.g, 0, none⟩)] w (Vic B sizes w s (victimK s.p) s.p.picks.tail) := by
  rcases hp : s.p.picks with _ | ⟨x, r⟩
  · exact victimB.calls B sizes s w h hp h0
  · exact victimA.calls B sizes s w x r h hp h0 hl
end Go.Proofs.Ytfhjdhhflpekiaa.G
