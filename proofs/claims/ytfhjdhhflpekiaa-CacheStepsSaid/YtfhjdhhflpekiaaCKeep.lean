/- A cache keeps a mesh, if there can be room. -/
import Derived.Test.YtfhjdhhflpekiaaCVic
import Derived.Test.YtfhjdhhflpekiaaCDel
import Derived.StillTailTactics
namespace Go.Proofs.Ytfhjdhhflpekiaa.G
open Go.RowKit Go.Proofs.Cache Go.Proofs.YtfhjdhhflpekiaaW.PrintWords Go.Proofs.YtfhjdhhflpekiaaW.PrintLast Go.Proofs.YtfhjdhhflpekiaaW.PrintMore
set_option linter.unusedVariables false
set_option linter.unusedSimpArgs false
def KeepPost (B : Bd) (sizes : List Int) (w : World) (s : Cs) (e : Ent) (x : Ending) (w' : World) : Prop :=
  x = .returned (.tuple #[]) ∧ ∃ s', s'.p = keepP s.p e.k ∧ Left B sizes (fun k => k = e.b) w s w' s'
set_option maxHeartbeats 1000000 in
set_option maxRecDepth 100000 in
theorem keepNo.calls (B : Bd) (sizes : List Int) (s : Cs) (e : Ent) (w : World) (h : CacheAt B sizes w s) (he : EntAt B w e) (hr : s.p.room < e.m.n) (ht : 0 ≤ s.p.tp ∧ s.p.tp ≤ 1000000) :
    Calls Try.prog 23 #[.pointer (some ⟨s.g, 0, none⟩), e.p] w (KeepPost B sizes w s e) := by
  have c0 : w.cell? ⟨s.g, 0, none⟩ = some (.int .i64 s.p.room) := (blk_cell h.cells 0).trans rfl
  have c7 : w.cell? ⟨s.g, 7, none⟩ = some (.int .i64 s.p.tp) := (blk_cell h.cells 7).trans rfl
  have f7 := blk_frozen h.cells 7
  have d1 : decide ((e.m.n : Int) > s.p.room) = true := decide_eq_true (by omega)
  have t0 := ht.1
  have t1 := ht.2
  have V : Aside0 (∀ n, KeepPost B sizes w s e (.returned (.tuple #[])) ((w.drewN n).setCell ⟨s.g, 7, none⟩ (.int .i64 (s.p.tp + 1)))) := ⟨fun n =>
    ⟨rfl, { s with p := { s.p with tp := s.p.tp + 1 } }, by unfold keepP; rw [if_pos (show s.p.room < e.k.n from hr)], (Left.drewN h n).trans (Left.set (h.drewN n) 7 _ { s.p with tp := s.p.tp + 1 } rfl rfl (by simp [Cs.cs]))⟩⟩
  clear h hr ht
  have HE := Aside0.mk he
  clear he
  go_enter Try.func23, Try.ntmps23
  go_wp2
  go_quiet ((go_at_call 26; exact Calls.quiet_of_same (size.calls B e _ (HE.out.drewN _))))
  go_wp2
  exact bodyPost_ret (v := .tuple #[]) (by simp [results, Try.results23, go_sem]) rfl (V.out _)
/-- While room is made. -/
structure Making (B : Bd) (sizes : List Int) (w : World) (s : Cs) (n : Nat) (w' : World) (s1 : Cs) : Prop where
  left : Left B sizes NoX w s w' s1
  inv : InvR sizes s1.p
  now : s1.p.now = s.p.now
  room : s1.p.room = s.p.room
  eq : roomP n s1.p.kept.length s1.p = roomP n s.p.kept.length s.p
theorem Making.len {B : Bd} {sizes : List Int} {w w' : World} {s s1 : Cs} {n : Nat} (h : Making B sizes w s n w' s1) : s1.p.kept.length = s1.ents.length := by rw [h.left.at_.kept, List.length_map]
theorem Making.small {B : Bd} {sizes : List Int} {w w' : World} {s s1 : Cs} {n : Nat} (h : Making B sizes w s n w' s1) : ∀ e ∈ s1.ents, e.m.n ≤ 1000 := fun e he =>
  (h.inv.size e.k (by rw [h.left.at_.kept]; exact List.mem_map_of_mem he)).2.2.1
theorem kv_some {B : Bd} {w : World} {v : Value} {n : Nat} {xs : List Value} (h : w.ownsRow B 62 1 v n xs) (hn : 0 < n) : ∃ g c, v = .slice (some ⟨g, 0, none⟩) n c := by
  rcases h.2 with ⟨_, h0⟩ | ⟨g, cap, cur, h1, _⟩
  · omega
  · exact ⟨g, cap, h1⟩
theorem held_zero {l : List Ke} (h : l.length = 0) : held l = 0 := by
  rw [List.length_eq_zero_iff.1 h]
  rfl
theorem map_eraseIdx {α β : Type} (f : α → β) : ∀ (l : List α) (k : Nat), (l.map f).eraseIdx k = (l.eraseIdx k).map f
  | [], _ => rfl
  | _ :: _, 0 => rfl
  | x :: l, k + 1 => by simp [map_eraseIdx f l k]
theorem making_step {B : Bd} {sizes : List Int} {w w' w2 w3 : World} {s s1 s2 : Cs} {n q m c gk : Nat} (M : Making B sizes w s n w' s1) (L2 : Left B sizes NoX (w'.drewN q) s1 w2 s2)
    (hp2 : s2.p = { s1.p with picks := s1.p.picks.tail }) (hkv2 : s2.kv = s1.kv) (he2 : s2.ents = s1.ents) (hm : s1.ents.length = m + 1) (ekv : s1.kv = .slice (some ⟨gk, 0, none⟩) (m + 1) c)
    (ho3 : w3.ownsRow B 62 1 (.slice (some ⟨gk, 0, none⟩) m c) m (ptrs (s1.ents.eraseIdx (victimK s1.p)))) (hb3 : Below B w2 w3) (hk3 : ∀ j, j < w2.heap.size → j ≠ gk → w3.heap[j]? = w2.heap[j]?)
    (hc : s1.p.room < (held s1.p.kept : Int) + n) :
    ∃ s4, Making B sizes w s n ((w3.setCell ⟨s.g, 3, none⟩ (.slice (some ⟨gk, 0, none⟩) m c)).setCell ⟨s.g, 6, none⟩ (.int .i64 (s1.p.td + 1))) s4 ∧ s4.ents.length = m := by
  have hlt : victimK s1.p < s1.ents.length := by rw [← M.len]; exact victim_lt _ (by rw [M.len]; omega)
  have hl' : (s1.ents.eraseIdx (victimK s1.p)).length = m := by rw [List.length_eraseIdx_of_lt hlt, hm]; rfl
  have L1 := (M.left.trans (Left.drewN M.left.at_ q)).trans L2
  have hg2 : s2.g = s.g := L1.g
  have hn := L2.at_.nodup
  rw [he2] at hn
  have L3 := Left.rekept (X := NoX) L2.at_ hb3 (fun j hj hne => hk3 j hj (fun e => hne (by rw [hkv2, ekv]; show some gk = some j; rw [e]))) (.slice (some ⟨gk, 0, none⟩) m c) (s1.ents.eraseIdx (victimK s1.p))
    (by rw [hl']; exact ho3) (.inl (by rw [hkv2, ekv]; rfl)) (fun e he => .inl (by rw [he2]; exact List.mem_of_mem_eraseIdx he)) (List.Nodup.sublist (List.Sublist.map _ (List.eraseIdx_sublist _ _)) hn)
  have L4 := Left.set (X := NoX) L3.at_ 6 (.int .i64 (s1.p.td + 1)) (dropP s1.p) (by
      show s1.p.kept.eraseIdx _ = (s1.ents.eraseIdx _).map _
      rw [M.left.at_.kept, map_eraseIdx]) (by
      show s1.p.picks.tail = s2.p.picks
      rw [hp2]) (by
      simp only [Cs.cs, hp2]
      simp [dropP])
  have L := (L1.trans L3).trans L4
  simp only [hg2] at L
  have hd : 0 < s1.p.kept.length := by rw [M.len]; omega
  refine ⟨_, ⟨L, M.inv.drop hd, M.now, M.room, ?_⟩, hl'⟩
  rw [← M.eq]
  have e1 : (dropP s1.p).kept.length = m := by
    have := drop_len s1.p hd
    rw [M.len] at this
    omega
  show roomP n (dropP s1.p).kept.length (dropP s1.p) = _
  rw [e1, M.len, hm, roomP, if_pos hc]
theorem making_end {B : Bd} {sizes : List Int} {w w' w1 : World} {s s1 : Cs} {e : Ent} {q g1 c1 : Nat} (h0 : CacheAt B sizes w s) (M : Making B sizes w s e.m.n w' s1) (he : EntAt B w e) (hm : ¬ Mut s e.b) (hr : (e.m.n : Int) ≤ s.p.room)
    (ho : w1.ownsRow B 62 1 (.slice (some ⟨g1, 0, none⟩) (s1.ents.length + 1) c1) (s1.ents.length + 1) (ptrs s1.ents ++ [e.p])) (hb : Below B (w'.drewN q) w1) (hgr : (w'.drewN q).grownBy w1 s1.kv.ownBlock)
    (hat : some g1 = s1.kv.ownBlock ∨ w'.heap.size ≤ g1) (hc : ¬ s1.p.room < (held s1.p.kept : Int) + e.m.n) :
    ∃ s5, Left B sizes (fun k => k = e.b) w s (w1.setCell ⟨s.g, 3, none⟩ (.slice (some ⟨g1, 0, none⟩) (s1.ents.length + 1) c1)) s5 ∧ s5.p = { s1.p with kept := s1.p.kept ++ [e.k] } ∧ s5.ents = s1.ents ++ [e] := by
  have hm1 : ¬ Mut s1 e.b := fun x => by
    rcases M.left.own _ x with y | y | y
    · exact hm y
    · exact y
    · have := blk_lt he.cells
      omega
  have e1 := he.left h0 M.left hm
  have L0 := M.left.trans (Left.drewN (X := NoX) M.left.at_ q)
  have h1 := M.left.at_.drewN q
  have e2 : EntAt B w1 e := by
    have e3 := e1.drewN q
    refine ⟨(hgr.block _ (blk_lt e3.cells) (fun x => hm1 (.inr (.inl x.symm)))).trans e3.cells, e3.lo, e3.mesh.move ?_⟩
    exact h1.still ⟨hb, fun k hk hm => hgr.block k hk (fun x => hm (.inr (.inl x.symm)))⟩
  have L3 := Left.rekept (X := fun k => k = e.b) h1 hb (fun j hj hne => hgr.block j hj (fun x => hne x.symm)) (.slice (some ⟨g1, 0, none⟩) (s1.ents.length + 1) c1) (s1.ents ++ [e])
    (by simpa [ptrs] using ho) (hat.imp id fun x => ⟨g1, rfl, x⟩) (fun x hx => by
      rcases List.mem_append.1 hx with y | y
      · exact .inl y
      · rw [List.mem_singleton.1 y]
        exact .inr ⟨rfl, e2⟩) (by
      rw [List.map_append, List.nodup_append]
      refine ⟨M.left.at_.nodup, by simp, ?_⟩
      intro a ha b hb q
      rw [List.map_cons, List.map_nil, List.mem_singleton] at hb
      obtain ⟨x, hx, rfl⟩ := List.mem_map.1 ha
      exact hm1 (.inr (.inr ⟨x, hx, q.trans hb⟩)))
  have L := L0.trans L3
  have hg : s1.g = s.g := M.left.g
  simp only [hg] at L
  refine ⟨_, L, ?_, rfl⟩
  show { s1.p with kept := (s1.ents ++ [e]).map Ent.k } = _
  rw [List.map_append, M.left.at_.kept]
  rfl
set_option maxHeartbeats 2000000 in
set_option maxRecDepth 100000 in
theorem keepYes.calls (B : Bd) (sizes : List Int) (s : Cs) (e : Ent) (w : World) (h : CacheAt B sizes w s) (he : EntAt B w e) (hm : ¬ Mut s e.b) (hi : InvR sizes s.p) (hr : (e.m.n : Int) ≤ s.p.room) (hn : s.p.now ≤ 1000000) (hen : e.m.n ≤ 1000) :
    Calls Try.prog 23 #[.pointer (some ⟨s.g, 0, none⟩), e.p] w (KeepPost B sizes w s e) := by
  have c0 : w.cell? ⟨s.g, 0, none⟩ = some (.int .i64 s.p.room) := (blk_cell h.cells 0).trans rfl
  have d1 : decide ((e.m.n : Int) > s.p.room) = false := decide_eq_false (by omega)
  have HE := Aside0.mk he
  have HM : Aside0 (Making B sizes w s e.m.n w s) := ⟨⟨Left.refl h, hi, rfl, rfl, rfl⟩⟩
  have X := Aside0.mk h
  have HMm := Aside0.mk hm
  have HR := Aside0.mk hr
  clear he hi h hr hm
  show Calls Try.prog 23 #[.pointer (some ⟨s.g, 0, none⟩), .pointer (some ⟨e.b, 0, none⟩)] w _
  go_enter Try.func23, Try.ntmps23
  go_wp2
  go_quiet ((go_at_call 26; exact Calls.quiet_of_same (size.calls B e _ (HE.out.drewN _))))
  go_wp2
  clear c0 d1
  go_loopg [] s.ents.length (fun kq w' => ∃ W, W = w' ∧ Aside0 (∃ s1, Making B sizes w s e.m.n W s1 ∧ s1.ents.length ≤ kq))
  case atStart => exact ⟨_, rfl, ⟨s, ⟨Left.drewN X.out _, HM.out.inv, rfl, rfl, rfl⟩, Nat.le_refl _⟩⟩
  case round =>
    obtain ⟨w', rfl, hrel⟩ := hrel
    obtain ⟨s1, M, hlen⟩ := hrel.out
    clear hrel
    have hg := M.left.g
    have hlm : s1.ents.length ≤ 999999 := by have h1 := M.inv.sum; have h2 := M.inv.tb; have h3 := M.inv.td; have h4 := M.inv.tp; rw [M.len] at h1; rw [M.now] at h2; omega
    have hH : held s1.p.kept ≤ 1000000000 := by
      have := held_le s1.p.kept 1000 (fun k hk => (M.inv.size k hk).2.2.1)
      rw [M.len] at this
      omega
    have HC : ∀ n, Calls Try.prog 18 #[.pointer (some ⟨s.g, 0, none⟩)] (w'.drewN n) fun x w2 => x = .returned (.int .i64 (held s1.p.kept)) ∧ w2 = w'.drewN n := fun n => by
      rw [← hg]
      exact held.calls B sizes s1 _ (M.left.at_.drewN n) M.small (by omega)
    have c0 : w'.cell? ⟨s.g, 0, none⟩ = some (.int .i64 s1.p.room) := by rw [← hg]; exact (blk_cell M.left.at_.cells 0).trans rfl
    have HE1 := Aside0.mk (HE.out.left X.out M.left HMm.out)
    have hn0 := M.inv.now
    have ht := M.inv.td
    have hnow : s1.p.now ≤ 1000000 := by rw [M.now]; exact hn
    have htd : s1.p.td ≤ 1000000 := by have h1 := M.inv.sum; have h2 := M.inv.tb; have h3 := M.inv.tp; omega
    by_cases c : s1.p.room < (held s1.p.kept : Int) + e.m.n
    · have d2 : decide (((held s1.p.kept : Nat) : Int) + (e.m.n : Int) > s1.p.room) = true := decide_eq_true (by omega)
      have hpos : s1.ents.length ≠ 0 := fun h0 => by
        rw [held_zero (by rw [M.len]; exact h0)] at c
        have h1 := HR.out
        rw [M.room] at c
        simp at c
        omega
      obtain ⟨m, hm⟩ : ∃ m, s1.ents.length = m + 1 := ⟨s1.ents.length - 1, by omega⟩
      obtain ⟨gb, ck, ekv⟩ := kv_some M.left.at_.kv (by omega)
      rw [hm] at ekv
      have hvl : victimK s1.p < m + 1 := by rw [← hm, ← M.len]; exact victim_lt _ (by rw [M.len]; omega)
      have VC : ∀ n, Calls Try.prog 28 #[.pointer (some ⟨s.g, 0, none⟩)] (w'.drewN n) (Vic B sizes (w'.drewN n) s1 (victimK s1.p) s1.p.picks.tail) := fun n => by
        rw [← hg]
        exact victim.calls B sizes s1 _ (M.left.at_.drewN n) (by omega) (by omega)
      have HV := Aside0.mk hvl
      have HM1 := Aside0.mk M
      have HG := Aside0.mk hg
      have HK := Aside0.mk ekv
      have HL := Aside0.mk hm
      have HC2 := Aside0.mk c
      have HHH := Aside0.mk hlen
      have k1 : (victimK s1.p : Int) ≤ 1000000 := by omega
      have k0 : 0 ≤ (victimK s1.p : Int) := by omega
      have htd0 := ht
      cases gk with
      | zero => omega
      | succ q1 =>
        clear hvl M hg ekv hm c hlen hpos hlm hnow ht
        go_wp2
        go_quiet (first | (go_at_call 18; exact Calls.quiet_of_same (HC _)) | (go_at_call 26; exact Calls.quiet_of_same (size.calls B e _ (HE1.out.drewN _))))
        go_wp2_with (first
         | (go_at_call 28; (with_reducible refine (VC _).mono ?_); rintro x w2 ⟨rfl, s2, hp2, hkv2, he2, L2⟩
            have c3 : w2.cell? ⟨s.g, 3, none⟩ = some (.slice (some ⟨gb, 0, none⟩) (m + 1) ck) := by
              rw [← HG.out, ← L2.g, ← HK.out, ← hkv2]
              exact (blk_cell L2.at_.cells 3).trans rfl
            have DC : Calls Try.prog 29 #[.slice (some ⟨gb, 0, none⟩) (m + 1) ck, .int .i64 (victimK s1.p), .int .i64 ((victimK s1.p : Int) + 1)] w2 fun x w3 => x = .returned (.slice (some ⟨gb, 0, none⟩) m ck) ∧ w3.ownsRow B 62 1 (.slice (some ⟨gb, 0, none⟩) m ck) m (ptrs (s1.ents.eraseIdx (victimK s1.p))) ∧ Below B w2 w3 ∧ ∀ j, j < w2.heap.size → j ≠ gb → w3.heap[j]? = w2.heap[j]? := by
              have := delete.calls B gb m ck (victimK s1.p) s1.ents w2 HL.out HV.out (by have h1 := L2.at_.kv; rw [hkv2, he2, HL.out, HK.out] at h1; exact h1) (Nat.le_trans L2.at_.lo (Nat.le_of_lt (blk_lt L2.at_.cells)))
              exact this
            have S2 := Aside0.mk L2
            have S3 := Aside0.mk hp2
            have S4 := Aside0.mk hkv2
            have S5 := Aside0.mk he2
            clear L2 hp2 hkv2 he2)
         | (go_at_call 29; (with_reducible refine DC.mono ?_); rintro x w3 ⟨rfl, ho3, hb3, hk3⟩
            have hne : s2.g ≠ gb := fun q => S2.out.at_.kv_ne_g (by rw [S4.out, HK.out, q]; rfl)
            have hc3 : w3.heap[s2.g]? = some (.cells s2.cs 61 (0, 0)) := (hk3 _ (blk_lt S2.out.at_.cells) hne).trans S2.out.at_.cells
            have hg2 : s2.g = s.g := S2.out.g.trans HG.out
            rw [hg2] at hc3
            have c6 : w3.cell? ⟨s.g, 6, none⟩ = some (.int .i64 s1.p.td) := (blk_cell hc3 6).trans (by show some (Value.int .i64 s2.p.td) = _; rw [S3.out])
            have f3 := blk_frozen hc3 3
            have f6 := blk_frozen hc3 6
            have x3 : w3.cell? ⟨s.g, 3, none⟩ = some (.slice (some ⟨gb, 0, none⟩) (m + 1) ck) := (blk_cell hc3 3).trans (by show some s2.kv = _; rw [S4.out, HK.out])
            have FIN : Aside0 (∃ s4, Making B sizes w s e.m.n ((w3.setCell ⟨s.g, 3, none⟩ (.slice (some ⟨gb, 0, none⟩) m ck)).setCell ⟨s.g, 6, none⟩ (.int .i64 (s1.p.td + 1))) s4 ∧ s4.ents.length = m) := ⟨making_step HM1.out S2.out S3.out S4.out S5.out HL.out HK.out ho3 hb3 hk3 HC2.out⟩
            clear hne hc3 hg2 ho3 hb3 hk3))
        go_roundg q1
        case measure => have := HHH.out; have := HL.out; omega
        case rel =>
          refine ⟨_, rfl, ?_⟩
          obtain ⟨s4, h4, h5⟩ := FIN.out
          exact ⟨s4, h4, by have := HHH.out; have := HL.out; omega⟩
    · have d2 : decide (((held s1.p.kept : Nat) : Int) + (e.m.n : Int) > s1.p.room) = false := decide_eq_false (by omega)
      have hpl : (ptrs s1.ents).length = s1.ents.length := by simp [ptrs]
      have HO : Aside0 (∀ n, (w'.drewN n).ownsRow B 62 1 s1.kv (ptrs s1.ents).length (ptrs s1.ents)) := ⟨fun n => by rw [hpl]; exact (M.left.at_.drewN n).kv⟩
      have HBs : Aside0 (B ≤ w'.heap.size) := ⟨Nat.le_trans M.left.at_.lo (Nat.le_of_lt (blk_lt M.left.at_.cells))⟩
      have HLN : Aside0 (((ptrs s1.ents).length + 1) * 8 ≤ 140737488355328) := ⟨by rw [hpl]; omega⟩
      have c3 : w'.cell? ⟨s.g, 3, none⟩ = some s1.kv := by rw [← hg]; exact (blk_cell M.left.at_.cells 3).trans rfl
      have HM1 := Aside0.mk M
      have HG := Aside0.mk hg
      have HPL := Aside0.mk hpl
      have HC2 := Aside0.mk c
      have HLM := Aside0.mk hlm
      have HHB := Aside0.mk hH
      clear M hg c hlm hnow ht hlen hpl hn0 htd
      go_wp2
      go_quiet (first | (go_at_call 18; exact Calls.quiet_of_same (HC _)) | (go_at_call 26; exact Calls.quiet_of_same (size.calls B e _ (HE1.out.drewN _))))
      go_wp2_with (first
       | ((with_reducible refine gate_builtin (b := .append) (xs := #[.tmp 57, .tmp 59]) rfl ?_); at_builtin; refine print_append (w0 := w'.drewN _) B rfl (.tmp 57) (.tmp 59) 59 62 (.pointer none) 8 rfl Try.underlying59 (by kernel_rfl) rfl (by decide) s1.kv (ptrs s1.ents) e.p (by rfl) (by rfl) rfl (HO.out _) (Below.refl _ _) HBs.out HLN.out ?_
          intro v1 w1 ho1 hb1 hg1 hat1
          rw [show (ptrs s1.ents ++ [e.p]).length = s1.ents.length + 1 by simp [ptrs]] at ho1
          obtain ⟨g1, ca, rfl⟩ := kv_some ho1 (by omega)
          have END : Aside0 (∃ s5, Left B sizes (fun k => k = e.b) w s (w1.setCell ⟨s.g, 3, none⟩ (.slice (some ⟨g1, 0, none⟩) (s1.ents.length + 1) ca)) s5 ∧ s5.p = { s1.p with kept := s1.p.kept ++ [e.k] } ∧ s5.ents = s1.ents ++ [e]) :=
            ⟨making_end X.out HM1.out HE.out HMm.out HR.out ho1 hb1 hg1 (hat1.imp id fun ⟨b, q, hb⟩ => by cases q; exact hb) (by have := HC2.out; omega)⟩
          have hc3 : w1.heap[s1.g]? = some (.cells s1.cs 61 (0, 0)) := (hg1.block _ (blk_lt HM1.out.left.at_.cells) (fun q => HM1.out.left.at_.kv_ne_g q.symm)).trans HM1.out.left.at_.cells
          rw [HG.out] at hc3
          have f3 := blk_frozen hc3 3
          have x3 : w1.cell? ⟨s.g, 3, none⟩ = some s1.kv := (blk_cell hc3 3).trans rfl
          clear hc3 ho1 hb1 hg1 hat1))
      obtain ⟨s5, L5, ep5, ee5⟩ := END.out
      clear END f3 x3
      generalize w1.setCell ⟨s.g, 3, none⟩ (.slice (some ⟨g1, 0, none⟩) (s1.ents.length + 1) ca) = w5 at *
      have hg5 : s5.g = s.g := L5.g
      have hk5 : s5.p.kept = s1.p.kept ++ [e.k] := by rw [ep5]
      have c8 : w5.cell? ⟨s.g, 8, none⟩ = some (.int .i64 s1.p.tm) := by rw [← hg5]; exact (blk_cell L5.at_.cells 8).trans (by show some (Value.int .i64 s5.p.tm) = _; rw [ep5])
      have f8 : w5.frozen? ⟨s.g, 8, none⟩ = false := by rw [← hg5]; exact blk_frozen L5.at_.cells 8
      have HC5 : ∀ n, Calls Try.prog 18 #[.pointer (some ⟨s.g, 0, none⟩)] (w5.drewN n) fun x w2 => x = .returned (.int .i64 (held (s1.p.kept ++ [e.k]))) ∧ w2 = w5.drewN n := fun n => by
        rw [← hg5, ← hk5]
        refine held.calls B sizes s5 _ (L5.at_.drewN n) ?_ ?_
        · intro x hx
          rw [ee5] at hx
          rcases List.mem_append.1 hx with y | y
          · exact HM1.out.small x y
          · rw [List.mem_singleton.1 y]
            exact hen
        · rw [ee5, List.length_append]
          have := HLM.out
          simp
          omega
      have hh5 : held (s1.p.kept ++ [e.k]) ≤ 1000001000 := by
        rw [held_snoc]
        have h1 := HHB.out
        have h2 : held s1.p.kept + e.m.n ≤ 1000001000 := by omega
        exact h2
      have S1 := Aside0.mk L5
      have S2 := Aside0.mk ep5
      have S3 := Aside0.mk hg5
      clear L5 ep5 ee5 hg5 hk5 HC c3 c0
      have VEND : Aside0 (KeepPost B sizes w s e (.returned (.tuple #[])) ((w5.setCell ⟨s.g, 8, none⟩ (.int .i64 (if s1.p.tm < (held (s1.p.kept ++ [e.k]) : Int) then (held (s1.p.kept ++ [e.k]) : Int) else s1.p.tm))).drew)) := ⟨by
        have hcc : ¬ s1.p.room < (held s1.p.kept : Int) + e.m.n := by have := HC2.out; omega
        have hR : roomP e.k.n s.p.kept.length s.p = s1.p := by
          have h1 := HM1.out.eq
          show roomP e.m.n _ _ = _
          rw [← h1]
          cases s1.p.kept.length with
          | zero => rfl
          | succ f => rw [roomP, if_neg hcc]
        have e1 : keepP s.p e.k = addP s1.p e.k := by
          unfold keepP
          rw [if_neg (show ¬ s.p.room < (e.k.n : Int) by have := HR.out; show ¬ s.p.room < (e.m.n : Int); omega), hR]
        have L6 := Left.set (X := NoX) S1.out.at_ 8 (.int .i64 (if s1.p.tm < (held (s1.p.kept ++ [e.k]) : Int) then (held (s1.p.kept ++ [e.k]) : Int) else s1.p.tm)) (keepP s.p e.k)
          (by rw [S2.out, e1]; rfl) (by rw [S2.out, e1]; rfl)
          (by
            simp only [Cs.cs, S2.out, e1]
            simp [addP, Int.max_def]
            omega)
        simp only [S3.out] at L6
        have hb := (HE.out.left X.out HM1.out.left HMm.out)
        refine ⟨rfl, _, ?_, (S1.out.then_ L6 ?_).then_ (Left.drewN L6.at_ 1) (fun i _ => rfl)⟩
        · rfl
        · intro i hi
          refine Below.heap_setCell _ _ _ _ ?_
          subst hi
          show e.b ≠ s.g
          intro q
          exact HMm.out (.inl q)⟩
      generalize held (s1.p.kept ++ [e.k]) = hv at *
      have HCd : Calls Try.prog 18 #[.pointer (some ⟨s.g, 0, none⟩)] w5.drew fun x w2 => x = .returned (.int .i64 hv) ∧ w2 = w5.drew := HC5 1
      go_region_with ((go_at_call 18; (with_reducible refine HCd.mono ?_); rintro x w6 ⟨rfl, rfl⟩))
      all_goals
        refine bodyPost_end (v := .tuple #[]) (by simp [results, Try.results23, go_sem]) rfl ?_
        exact VEND.out
theorem keep.calls (B : Bd) (sizes : List Int) (s : Cs) (e : Ent) (w : World) (h : CacheAt B sizes w s) (he : EntAt B w e) (hm : ¬ Mut s e.b) (hi : InvR sizes s.p) (hn : s.p.now ≤ 1000000) (hen : e.m.n ≤ 1000) :
    Calls Try.prog 23 #[.pointer (some ⟨s.g, 0, none⟩), .pointer (some ⟨e.b, 0, none⟩)] w (KeepPost B sizes w s e) := by
  by_cases c : s.p.room < e.m.n
  · refine keepNo.calls B sizes s e w h he c ⟨hi.tp, ?_⟩
    have h1 := hi.sum
    have h2 := hi.tb
    have h3 := hi.td
    omega
  · exact keepYes.calls B sizes s e w h he hm hi (by omega) hn hen
end Go.Proofs.Ytfhjdhhflpekiaa.G
