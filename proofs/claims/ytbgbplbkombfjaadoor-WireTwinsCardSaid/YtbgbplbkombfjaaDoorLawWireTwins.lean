/- WireTwins: the walk of the law. -/
import Derived.Test.YtbgbplbkombfjaaDoorWInj
import Derived.Test.YtbgbplbkombfjaaDoorWSame
import Derived.Test.YtbgbplbkombfjaaDoorSmall
namespace Go.Proofs.YtbgbplbkombfjaaDoor
open Go.RowKit Go.Proofs.YtbgbplbkombfjaaDoorW.PrintWords SumPlain
set_option linter.unusedVariables false
set_option linter.unusedSimpArgs false
attribute [local go_sem] setCell_drewN alloc_drewN
theorem twin_bytes (m n : Msg) (A0 A1 : Option Addr) (k0 k1 c0 c1 : Nat) (w : World) (hm : validL m = none) (hn : validL n = none) (h0 : Kd.C (Kd.int .u8) w A0 k0 (msgL m)) (h1 : Kd.C (Kd.int .u8) w A1 k1 (msgL n)) :
    Calls Tryd.prog 21 #[.slice A0 k0 c0, .slice A1 k1 c1] w fun e w' => e = .returned (.bool (decide (m = n))) ∧ Below w.heap.size w w' := by
  obtain ⟨a1, a2, a3⟩ := validL_none m hm
  obtain ⟨b1, b2, b3⟩ := validL_none n hn
  refine (same_any A0 A1 k0 k1 c0 c1 _ _ w h0 h1 (by rw [msgL_length m a1]; unfold sizeM; (repeat' split) <;> omega)).mono ?_
  rintro e w' ⟨rfl, hd⟩
  refine ⟨?_, hd.below⟩
  congr 2
  rw [decide_eq_decide]
  exact msgL_inj m n a3 b3 a1
theorem wsame_sym (m n : Msg) (A0 A1 : Option Addr) (n0 n1 c0 c1 : Nat) (w : World) (h0 : Kd.C (Kd.int .u32) w A0 n0 m.l) (h1 : Kd.C (Kd.int .u32) w A1 n1 n.l) (hl : n.l.length ≤ 1000000) :
    Calls Tryd.prog 30 #[.agg (n.cells (.slice A1 n1 c1)), .agg (m.cells (.slice A0 n0 c0))] w fun e w' => e = .returned (.bool (decide (m = n))) ∧ Below w.heap.size w w' := by
  refine (wsame_any n m A1 A0 n1 n0 c1 c0 w h1 h0 hl).mono ?_
  rintro e w' ⟨rfl, hb⟩
  refine ⟨?_, hb⟩
  congr 2
  rw [decide_eq_decide]
  exact eq_comm
theorem wsame_self (m : Msg) (A0 : Option Addr) (n0 c0 : Nat) (w : World) (h0 : Kd.C (Kd.int .u32) w A0 n0 m.l) (hl : m.l.length ≤ 1000000) :
    Calls Tryd.prog 30 #[.agg (m.cells (.slice A0 n0 c0)), .agg (m.cells (.slice A0 n0 c0))] w fun e w' => e = .returned (.bool true) ∧ Below w.heap.size w w' := by
  refine (wsame_any m m A0 A0 n0 n0 c0 c0 w h0 h0 hl).mono ?_
  rintro e w' ⟨rfl, hb⟩
  exact ⟨by rw [decide_eq_true rfl], hb⟩
set_option maxHeartbeats 4000000 in
set_option maxRecDepth 100000 in
theorem wireTwins_all (E : Nat → Addr) (m n : Msg) (A0 A1 : Option Addr) (n0 n1 c0 c1 : Nat) (w : World) (hE : Errs wireErrs E w) (hw : m.wf) (gw : n.wf) (h0 : Kd.C (Kd.int .u32) w A0 n0 m.l) (h1 : Kd.C (Kd.int .u32) w A1 n1 n.l) :
    Calls Tryd.prog 8 #[.agg (m.cells (.slice A0 n0 c0)), .agg (n.cells (.slice A1 n1 c1))] w fun e w' => e = .returned (.bool true) ∧ Below w.heap.size w w' := by
  have hu2 := Tryd.underlying56
  have hu3 := Tryd.underlying53
  obtain ⟨x0, x1, x2, x3, x4, x5, x6, x7, lx⟩ := m
  obtain ⟨y0, y1, y2, y3, y4, y5, y6, y7, ly⟩ := n
  simp only [Msg.cells]
  obtain ⟨W, hW⟩ : ∃ W, W = (w.alloc (.cells #[.int .i64 x0, .int .u32 x1, .int .u32 x2, .int .u32 x3, .int .u32 x4, .int .i64 x5, .int .i64 x6, .bool x7, .slice A0 n0 c0] 56)).alloc (.cells #[.int .i64 y0, .int .u32 y1, .int .u32 y2, .int .u32 y3, .int .u32 y4, .int .i64 y5, .int .i64 y6, .bool y7, .slice A1 n1 c1] 56) := ⟨_, rfl⟩
  have hb0 : Below w.heap.size w W := by rw [hW]; exact below_alloc (below_alloc (Below.refl _ _) _) _
  have hh : W.heap[w.heap.size]? = some (.cells #[.int .i64 x0, .int .u32 x1, .int .u32 x2, .int .u32 x3, .int .u32 x4, .int .i64 x5, .int .i64 x6, .bool x7, .slice A0 n0 c0] 56 (0, 0)) := by rw [hW]; exact blk_alloc (heap_alloc_new w _) _
  have hg : W.heap[w.heap.size + 1]? = some (.cells #[.int .i64 y0, .int .u32 y1, .int .u32 y2, .int .u32 y3, .int .u32 y4, .int .i64 y5, .int .i64 y6, .bool y7, .slice A1 n1 c1] 56 (0, 0)) := by rw [hW]; exact new_at _ _ _ (by simp)
  have HW := Aside0.mk (And.intro hw (And.intro gw (And.intro (hE.below hb0) (And.intro (Kd.C_below h0 hb0) (Kd.C_below h1 hb0)))))
  have HS := Aside0.mk (And.intro hb0 (And.intro hh hg))
  have HX := Aside0.mk hW
  clear hb0 hh hg hW hw gw hE h0 h1
  go_enter Tryd.func8, Tryd.ntmps8
  go_wp2_with fail
  have hW := HX.out
  rw [← hW]
  clear HX hW
  obtain ⟨hb0, hh, hg⟩ := HS.out
  clear HS
  obtain ⟨b, hb⟩ : ∃ b, b = w.heap.size := ⟨_, rfl⟩
  rw [← hb] at hh hg ⊢
  have HB := Aside0.mk (And.intro hb hb0)
  clear hb hb0
  refine (first4_any E W HW.out.2.2.1).mono ?_
  rintro e w2 ⟨rfl, hb2⟩
  have hB2 : Below W.heap.size W w2 := hb2
  have hh := blk_below hh hb2
  have hg := blk_below hg hb2
  clear hb2
  have p0 := (blk_cell hh 0).trans rfl
  have p1 := (blk_cell hh 1).trans rfl
  have p2 := (blk_cell hh 2).trans rfl
  have p3 := (blk_cell hh 3).trans rfl
  have p4 := (blk_cell hh 4).trans rfl
  have p5 := (blk_cell hh 5).trans rfl
  have p6 := (blk_cell hh 6).trans rfl
  have p7 := (blk_cell hh 7).trans rfl
  have p8 := (blk_cell hh 8).trans rfl
  have HQ := Aside0.mk (And.intro hh (And.intro hg hB2))
  clear hh hg hB2
  go_wp2_with fail
  clear p0 p1 p2 p3 p4 p5 p6 p7 p8
  refine (light_any ⟨x0, x1, x2, x3, x4, x5, x6, x7, lx⟩ A0 n0 c0 w2).mono ?_
  rintro e w3 ⟨rfl, hb3⟩
  obtain ⟨hh, hg, hB2⟩ := HQ.out
  have hh := blk_below hh hb3
  have hg := blk_below hg hb3
  have hB3 := reach_to' hB2 hB2.size hb3
  clear hB2 hb3 HQ
  by_cases d0 : (n0 : Int) ≤ 20
  · rw [decide_eq_true d0]
    clear d0
    have q0 := (blk_cell hg 0).trans rfl
    have q1 := (blk_cell hg 1).trans rfl
    have q2 := (blk_cell hg 2).trans rfl
    have q3 := (blk_cell hg 3).trans rfl
    have q4 := (blk_cell hg 4).trans rfl
    have q5 := (blk_cell hg 5).trans rfl
    have q6 := (blk_cell hg 6).trans rfl
    have q7 := (blk_cell hg 7).trans rfl
    have q8 := (blk_cell hg 8).trans rfl
    have HQ := Aside0.mk (And.intro hh (And.intro hg hB3))
    clear hh hg hB3
    go_wp2_with fail
    clear q0 q1 q2 q3 q4 q5 q6 q7 q8
    refine (light_any ⟨y0, y1, y2, y3, y4, y5, y6, y7, ly⟩ A1 n1 c1 w3).mono ?_
    rintro e w4 ⟨rfl, hb4⟩
    obtain ⟨hh, hg, hB3⟩ := HQ.out
    have hh := blk_below hh hb4
    have hg := blk_below hg hb4
    have hB4 := reach_to' hB3 hB3.size hb4
    clear hB3 hb4 HQ
    by_cases d1 : (n1 : Int) ≤ 20
    · rw [decide_eq_true d1]
      clear d1
      have p0 := (blk_cell hh 0).trans rfl
      have p1 := (blk_cell hh 1).trans rfl
      have p2 := (blk_cell hh 2).trans rfl
      have p3 := (blk_cell hh 3).trans rfl
      have p4 := (blk_cell hh 4).trans rfl
      have p5 := (blk_cell hh 5).trans rfl
      have p6 := (blk_cell hh 6).trans rfl
      have p7 := (blk_cell hh 7).trans rfl
      have p8 := (blk_cell hh 8).trans rfl
      have HQ := Aside0.mk (And.intro hh (And.intro hg hB4))
      clear hh hg hB4
      go_wp2_with fail
      clear p0 p1 p2 p3 p4 p5 p6 p7 p8
      refine (wbytes_any E ⟨x0, x1, x2, x3, x4, x5, x6, x7, lx⟩ A0 n0 c0 w4 (HW.out.2.2.1.below HQ.out.2.2) HW.out.1 (Kd.C_below HW.out.2.2.2.1 HQ.out.2.2)).mono ?_
      rintro e w5 ⟨v1, rfl, hR1, hb5⟩
      obtain ⟨hh, hg, hB4⟩ := HQ.out
      have hh := blk_below hh hb5
      have hg := blk_below hg hb5
      have hB5 := reach_to' hB4 hB4.size hb5
      clear hB4 hb5 HQ
      have q0 := (blk_cell hg 0).trans rfl
      have q1 := (blk_cell hg 1).trans rfl
      have q2 := (blk_cell hg 2).trans rfl
      have q3 := (blk_cell hg 3).trans rfl
      have q4 := (blk_cell hg 4).trans rfl
      have q5 := (blk_cell hg 5).trans rfl
      have q6 := (blk_cell hg 6).trans rfl
      have q7 := (blk_cell hg 7).trans rfl
      have q8 := (blk_cell hg 8).trans rfl
      have HQ := Aside0.mk (And.intro hh (And.intro hg (And.intro hB5 hR1)))
      clear hh hg hB5 hR1
      go_wp2_with fail
      clear q0 q1 q2 q3 q4 q5 q6 q7 q8
      refine (wbytes_any E ⟨y0, y1, y2, y3, y4, y5, y6, y7, ly⟩ A1 n1 c1 w5 (HW.out.2.2.1.below HQ.out.2.2.1) HW.out.2.1 (Kd.C_below HW.out.2.2.2.2 HQ.out.2.2.1)).mono ?_
      rintro e w6 ⟨v2, rfl, hR2, hb6⟩
      obtain ⟨hh, hg, hB5, hR1⟩ := HQ.out
      have hh := blk_below hh hb6
      have hg := blk_below hg hb6
      have hB6 := reach_to' hB5 hB5.size hb6
      have hR1 := Kd.R_below hR1 hb6
      obtain ⟨P1, k1, rfl, _, hC1⟩ := Kd.R_reads hR1
      obtain ⟨P2, k2, rfl, _, hC2⟩ := Kd.R_reads hR2
      clear hB5 hb6 HQ hR1 hR2
      cases hv1 : validL ⟨x0, x1, x2, x3, x4, x5, x6, x7, lx⟩ with
      | some i1 =>
        simp only [errV]
        have z1 : (wbL ⟨x0, x1, x2, x3, x4, x5, x6, x7, lx⟩).length = 0 := by unfold wbL; rw [hv1]; rfl
        rw [z1]
        clear hC1 z1
        have HZ := Aside0.mk (And.intro HB.out (And.intro hB6 hv1))
        clear hv1 hB6 hh hg
        cases hv2 : validL ⟨y0, y1, y2, y3, y4, y5, y6, y7, ly⟩ with
        | some i2 =>
          have z2 : (wbL ⟨y0, y1, y2, y3, y4, y5, y6, y7, ly⟩).length = 0 := by unfold wbL; rw [hv2]; rfl
          rw [z2]
          clear hC2 z2 hv2
          simp only [errV]
          go_wp2
          go_ret
          exact ⟨rfl, reach_to' HZ.out.1.2 HZ.out.1.2.size HZ.out.2.1⟩
        | none =>
          clear hC2 hv2
          simp only [errV]
          generalize (wbL ⟨y0, y1, y2, y3, y4, y5, y6, y7, ly⟩).length = z2
          go_wp2
          go_ret
          exact ⟨rfl, reach_to' HZ.out.1.2 HZ.out.1.2.size HZ.out.2.1⟩
      | none =>
        simp only [errV]
        cases hv2 : validL ⟨y0, y1, y2, y3, y4, y5, y6, y7, ly⟩ with
        | some i2 =>
          have HZ := Aside0.mk (And.intro HB.out hB6)
          have z2 : (wbL ⟨y0, y1, y2, y3, y4, y5, y6, y7, ly⟩).length = 0 := by unfold wbL; rw [hv2]; rfl
          rw [z2]
          clear hC2 z2 hv2 hC1 hv1 hB6 hh hg
          simp only [errV]
          generalize (wbL ⟨x0, x1, x2, x3, x4, x5, x6, x7, lx⟩).length = z1
          go_wp2
          go_ret
          exact ⟨rfl, reach_to' HZ.out.1.2 HZ.out.1.2.size HZ.out.2⟩
        | none =>
          simp only [errV]
          unfold wbL at hC1 hC2 ⊢
          rw [if_pos hv1] at hC1 ⊢
          rw [if_pos hv2] at hC2 ⊢
          have hCX := Kd.C_below HW.out.2.2.2.1 hB6
          have hCY := Kd.C_below HW.out.2.2.2.2 hB6
          have hlx : lx.length ≤ 1000000 := by have := (validL_none _ hv1).2.1; simp only at this; omega
          have hly : ly.length ≤ 1000000 := by have := (validL_none _ hv2).2.1; simp only at this; omega
          have HC := Aside0.mk (And.intro hv1 (And.intro hv2 (And.intro hC1 (And.intro hC2 (And.intro hCX (And.intro hCY (And.intro hlx hly)))))))
          have HZ := Aside0.mk (And.intro HB.out hB6)
          clear hv1 hv2 hC1 hC2 hCX hCY hlx hly hB6
          have p0 := (blk_cell hh 0).trans rfl
          have p1 := (blk_cell hh 1).trans rfl
          have p2 := (blk_cell hh 2).trans rfl
          have p3 := (blk_cell hh 3).trans rfl
          have p4 := (blk_cell hh 4).trans rfl
          have p5 := (blk_cell hh 5).trans rfl
          have p6 := (blk_cell hh 6).trans rfl
          have p7 := (blk_cell hh 7).trans rfl
          have p8 := (blk_cell hh 8).trans rfl
          have q0 := (blk_cell hg 0).trans rfl
          have q1 := (blk_cell hg 1).trans rfl
          have q2 := (blk_cell hg 2).trans rfl
          have q3 := (blk_cell hg 3).trans rfl
          have q4 := (blk_cell hg 4).trans rfl
          have q5 := (blk_cell hg 5).trans rfl
          have q6 := (blk_cell hg 6).trans rfl
          have q7 := (blk_cell hg 7).trans rfl
          have q8 := (blk_cell hg 8).trans rfl
          clear hh hg
          obtain ⟨s, hs⟩ : ∃ s, s = decide ((⟨x0, x1, x2, x3, x4, x5, x6, x7, lx⟩ : Msg) = ⟨y0, y1, y2, y3, y4, y5, y6, y7, ly⟩) := ⟨_, rfl⟩
          have HD := Aside0.mk hs
          clear hs
          generalize hz1 : (msgL ⟨x0, x1, x2, x3, x4, x5, x6, x7, lx⟩).length = z1
          generalize hz2 : (msgL ⟨y0, y1, y2, y3, y4, y5, y6, y7, ly⟩).length = z2
          rw [hz1] at HC
          rw [hz2] at HC
          clear hz1 hz2
          go_wp2_with fail
          refine wp_region_held_drew (S := (fun w' => w'.cell? ⟨b, 0, none⟩ = some (.int .i64 x0) ∧ w'.cell? ⟨b, 1, none⟩ = some (.int .u32 x1) ∧ w'.cell? ⟨b, 2, none⟩ = some (.int .u32 x2) ∧ w'.cell? ⟨b, 3, none⟩ = some (.int .u32 x3) ∧ w'.cell? ⟨b, 4, none⟩ = some (.int .u32 x4) ∧ w'.cell? ⟨b, 5, none⟩ = some (.int .i64 x5) ∧ w'.cell? ⟨b, 6, none⟩ = some (.int .i64 x6) ∧ w'.cell? ⟨b, 7, none⟩ = some (.bool x7) ∧ w'.cell? ⟨b, 8, none⟩ = some (.slice A0 n0 c0) ∧ w'.cell? ⟨b + 1, 0, none⟩ = some (.int .i64 y0) ∧ w'.cell? ⟨b + 1, 1, none⟩ = some (.int .u32 y1) ∧ w'.cell? ⟨b + 1, 2, none⟩ = some (.int .u32 y2) ∧ w'.cell? ⟨b + 1, 3, none⟩ = some (.int .u32 y3) ∧ w'.cell? ⟨b + 1, 4, none⟩ = some (.int .u32 y4) ∧ w'.cell? ⟨b + 1, 5, none⟩ = some (.int .i64 y5) ∧ w'.cell? ⟨b + 1, 6, none⟩ = some (.int .i64 y6) ∧ w'.cell? ⟨b + 1, 7, none⟩ = some (.bool y7) ∧ w'.cell? ⟨b + 1, 8, none⟩ = some (.slice A1 n1 c1))) (by kernel_rfl) ?_ (fun hHeld => ?_)
          · (refine (fun hK : Below w6.heap.size w6 _ => ⟨pw_cell_below hK p0, pw_cell_below hK p1, pw_cell_below hK p2, pw_cell_below hK p3, pw_cell_below hK p4, pw_cell_below hK p5, pw_cell_below hK p6, pw_cell_below hK p7, pw_cell_below hK p8, pw_cell_below hK q0, pw_cell_below hK q1, pw_cell_below hK q2, pw_cell_below hK q3, pw_cell_below hK q4, pw_cell_below hK q5, pw_cell_below hK q6, pw_cell_below hK q7, pw_cell_below hK q8⟩) ?_; repeat' (first | assumption | exact Below.refl _ _ | (refine below_drew ?_) | (refine pw_below_drewN ?_ _)))
          refine wpAnyH_take (i := 0) (v := ?_) rfl (by kernel_rfl) (by kernel_rfl) (by kernel_rfl) (fun _ _ _ h => h) (Or.inl ⟨by rfl, ?_⟩) (by assumption) ?_
          rotate_left 1
          · intro w hSw; (try dsimp only at hSw); go_simp; try with_reducible rfl
          try simp only [Act.put, List.getElem_toArray, List.getElem_cons_zero, List.getElem_cons_succ, List.setIfInBounds_toArray, List.set_cons_zero, List.set_cons_succ]
          refine wpAnyH_take (i := 1) (v := ?_) rfl (by kernel_rfl) (by kernel_rfl) (by kernel_rfl) (fun _ _ _ h => h) (Or.inl ⟨by rfl, ?_⟩) (by assumption) ?_
          rotate_left 1
          · intro w hSw; (try dsimp only at hSw); go_simp; try with_reducible rfl
          try simp only [Act.put, List.getElem_toArray, List.getElem_cons_zero, List.getElem_cons_succ, List.setIfInBounds_toArray, List.set_cons_zero, List.set_cons_succ]
          refine wpAnyH_take (i := 2) (v := ?_) rfl (by kernel_rfl) (by kernel_rfl) (by kernel_rfl) (fun _ _ _ h => h) (Or.inl ⟨by rfl, ?_⟩) (by assumption) ?_
          rotate_left 1
          · intro w hSw; (try dsimp only at hSw); go_simp; try with_reducible rfl
          try simp only [Act.put, List.getElem_toArray, List.getElem_cons_zero, List.getElem_cons_succ, List.setIfInBounds_toArray, List.set_cons_zero, List.set_cons_succ]
          refine wpAnyH_take (i := 3) (v := ?_) rfl (by kernel_rfl) (by kernel_rfl) (by kernel_rfl) (fun _ _ _ h => h) (Or.inl ⟨by rfl, ?_⟩) (by assumption) ?_
          rotate_left 1
          · intro w hSw; (try dsimp only at hSw); go_simp; try with_reducible rfl
          try simp only [Act.put, List.getElem_toArray, List.getElem_cons_zero, List.getElem_cons_succ, List.setIfInBounds_toArray, List.set_cons_zero, List.set_cons_succ]
          refine wpAnyH_take (i := 5) (v := ?_) rfl (by kernel_rfl) (by kernel_rfl) (by kernel_rfl) (fun _ _ _ h => h) (Or.inl ⟨by rfl, ?_⟩) (by assumption) ?_
          rotate_left 1
          · intro w hSw; (try dsimp only at hSw); go_simp; try with_reducible rfl
          try simp only [Act.put, List.getElem_toArray, List.getElem_cons_zero, List.getElem_cons_succ, List.setIfInBounds_toArray, List.set_cons_zero, List.set_cons_succ]
          refine wpAnyH_take (i := 6) (v := ?_) rfl (by kernel_rfl) (by kernel_rfl) (by kernel_rfl) (fun _ _ _ h => h) (Or.inl ⟨by rfl, ?_⟩) (by assumption) ?_
          rotate_left 1
          · intro w hSw; (try dsimp only at hSw); go_simp; try with_reducible rfl
          try simp only [Act.put, List.getElem_toArray, List.getElem_cons_zero, List.getElem_cons_succ, List.setIfInBounds_toArray, List.set_cons_zero, List.set_cons_succ]
          refine wpAnyH_ready (rs := [4]) (by kernel_rfl) (by simp) ?_
          refine AllReadyH.cons rfl (fun K hK => ?_) ?_
          · go_simp
            refine (twin_bytes ⟨x0, x1, x2, x3, x4, x5, x6, x7, lx⟩ ⟨y0, y1, y2, y3, y4, y5, y6, y7, ly⟩ P1 P2 z1 z2 k1 k2 _ HC.out.1 HC.out.2.1 (Kd.C_below HC.out.2.2.1 (below_drew (Below.refl _ _))) (Kd.C_below HC.out.2.2.2.1 (below_drew (Below.refl _ _)))).mono ?_
            rintro e u1 ⟨rfl, hu1⟩
            have hk1 : Below w6.heap.size w6 u1 := reach_to' (below_drew (Below.refl _ _)) (Nat.le_trans (Nat.le_refl _) (below_drew (Below.refl _ _) : Below w6.heap.size w6 _).size) hu1
            clear hu1
            try rw [← HD.out]
            refine hK.out _ _ ?_ (fun hHeld => ?_)
            · (refine (fun hK : Below w6.heap.size w6 _ => ⟨pw_cell_below hK p0, pw_cell_below hK p1, pw_cell_below hK p2, pw_cell_below hK p3, pw_cell_below hK p4, pw_cell_below hK p5, pw_cell_below hK p6, pw_cell_below hK p7, pw_cell_below hK p8, pw_cell_below hK q0, pw_cell_below hK q1, pw_cell_below hK q2, pw_cell_below hK q3, pw_cell_below hK q4, pw_cell_below hK q5, pw_cell_below hK q6, pw_cell_below hK q7, pw_cell_below hK q8⟩) ?_; repeat' (first | assumption | exact Below.refl _ _ | (refine below_drew ?_) | (refine pw_below_drewN ?_ _)))
            clear hK K
            try simp only [Act.put, List.getElem_toArray, List.getElem_cons_zero, List.getElem_cons_succ, List.setIfInBounds_toArray, List.set_cons_zero, List.set_cons_succ]
            refine wpAnyH_ready (rs := [7]) (by kernel_rfl) (by simp) ?_
            refine AllReadyH.cons rfl (fun K hK => ?_) ?_
            · go_simp
              refine (wsame_any ⟨x0, x1, x2, x3, x4, x5, x6, x7, lx⟩ ⟨y0, y1, y2, y3, y4, y5, y6, y7, ly⟩ A0 A1 n0 n1 c0 c1 _ (Kd.C_below HC.out.2.2.2.2.1 (hk1)) (Kd.C_below HC.out.2.2.2.2.2.1 (hk1)) HC.out.2.2.2.2.2.2.1).mono ?_
              rintro e u2 ⟨rfl, hu2⟩
              have hk2 : Below w6.heap.size w6 u2 := reach_to' (hk1) (Nat.le_trans (Nat.le_refl _) (hk1 : Below w6.heap.size w6 _).size) hu2
              clear hu2
              try rw [← HD.out]
              refine hK.out _ _ ?_ (fun hHeld => ?_)
              · (refine (fun hK : Below w6.heap.size w6 _ => ⟨pw_cell_below hK p0, pw_cell_below hK p1, pw_cell_below hK p2, pw_cell_below hK p3, pw_cell_below hK p4, pw_cell_below hK p5, pw_cell_below hK p6, pw_cell_below hK p7, pw_cell_below hK p8, pw_cell_below hK q0, pw_cell_below hK q1, pw_cell_below hK q2, pw_cell_below hK q3, pw_cell_below hK q4, pw_cell_below hK q5, pw_cell_below hK q6, pw_cell_below hK q7, pw_cell_below hK q8⟩) ?_; repeat' (first | assumption | exact Below.refl _ _ | (refine below_drew ?_) | (refine pw_below_drewN ?_ _)))
              clear hK K
              try simp only [Act.put, List.getElem_toArray, List.getElem_cons_zero, List.getElem_cons_succ, List.setIfInBounds_toArray, List.set_cons_zero, List.set_cons_succ]
              refine wpAnyH_take (i := 8) (v := ?_) rfl (by kernel_rfl) (by kernel_rfl) (by kernel_rfl) (fun _ _ _ h => h) (Or.inl ⟨by rfl, ?_⟩) (by assumption) ?_
              rotate_left 1
              · intro w hSw; (try dsimp only at hSw); go_simp; try with_reducible rfl
              try simp only [Act.put, List.getElem_toArray, List.getElem_cons_zero, List.getElem_cons_succ, List.setIfInBounds_toArray, List.set_cons_zero, List.set_cons_succ]
              refine wpAnyH_take (i := 9) (v := ?_) rfl (by kernel_rfl) (by kernel_rfl) (by kernel_rfl) (fun _ _ _ h => h) (Or.inl ⟨by rfl, ?_⟩) (by assumption) ?_
              rotate_left 1
              · intro w hSw; (try dsimp only at hSw); go_simp; try with_reducible rfl
              try simp only [Act.put, List.getElem_toArray, List.getElem_cons_zero, List.getElem_cons_succ, List.setIfInBounds_toArray, List.set_cons_zero, List.set_cons_succ]
              refine wpAnyH_take (i := 10) (v := ?_) rfl (by kernel_rfl) (by kernel_rfl) (by kernel_rfl) (fun _ _ _ h => h) (Or.inl ⟨by rfl, ?_⟩) (by assumption) ?_
              rotate_left 1
              · intro w hSw; (try dsimp only at hSw); go_simp; try with_reducible rfl
              try simp only [Act.put, List.getElem_toArray, List.getElem_cons_zero, List.getElem_cons_succ, List.setIfInBounds_toArray, List.set_cons_zero, List.set_cons_succ]
              refine wpAnyH_take (i := 11) (v := ?_) rfl (by kernel_rfl) (by kernel_rfl) (by kernel_rfl) (fun _ _ _ h => h) (Or.inl ⟨by rfl, ?_⟩) (by assumption) ?_
              rotate_left 1
              · intro w hSw; (try dsimp only at hSw); go_simp; try with_reducible rfl
              try simp only [Act.put, List.getElem_toArray, List.getElem_cons_zero, List.getElem_cons_succ, List.setIfInBounds_toArray, List.set_cons_zero, List.set_cons_succ]
              refine wpAnyH_take (i := 12) (v := ?_) rfl (by kernel_rfl) (by kernel_rfl) (by kernel_rfl) (fun _ _ _ h => h) (Or.inl ⟨by rfl, ?_⟩) (by assumption) ?_
              rotate_left 1
              · intro w hSw; (try dsimp only at hSw); go_simp; try with_reducible rfl
              try simp only [Act.put, List.getElem_toArray, List.getElem_cons_zero, List.getElem_cons_succ, List.setIfInBounds_toArray, List.set_cons_zero, List.set_cons_succ]
              refine wpAnyH_take (i := 14) (v := ?_) rfl (by kernel_rfl) (by kernel_rfl) (by kernel_rfl) (fun _ _ _ h => h) (Or.inl ⟨by rfl, ?_⟩) (by assumption) ?_
              rotate_left 1
              · intro w hSw; (try dsimp only at hSw); go_simp; try with_reducible rfl
              try simp only [Act.put, List.getElem_toArray, List.getElem_cons_zero, List.getElem_cons_succ, List.setIfInBounds_toArray, List.set_cons_zero, List.set_cons_succ]
              refine wpAnyH_take (i := 15) (v := ?_) rfl (by kernel_rfl) (by kernel_rfl) (by kernel_rfl) (fun _ _ _ h => h) (Or.inl ⟨by rfl, ?_⟩) (by assumption) ?_
              rotate_left 1
              · intro w hSw; (try dsimp only at hSw); go_simp; try with_reducible rfl
              try simp only [Act.put, List.getElem_toArray, List.getElem_cons_zero, List.getElem_cons_succ, List.setIfInBounds_toArray, List.set_cons_zero, List.set_cons_succ]
              refine wpAnyH_ready (rs := [13]) (by kernel_rfl) (by simp) ?_
              refine AllReadyH.cons rfl (fun K hK => ?_) ?_
              · go_simp
                refine (wsame_any ⟨x0, x1, x2, x3, x4, x5, x6, x7, lx⟩ ⟨y0, y1, y2, y3, y4, y5, y6, y7, ly⟩ A0 A1 n0 n1 c0 c1 _ (Kd.C_below HC.out.2.2.2.2.1 (hk2)) (Kd.C_below HC.out.2.2.2.2.2.1 (hk2)) HC.out.2.2.2.2.2.2.1).mono ?_
                rintro e u3 ⟨rfl, hu3⟩
                have hk3 : Below w6.heap.size w6 u3 := reach_to' (hk2) (Nat.le_trans (Nat.le_refl _) (hk2 : Below w6.heap.size w6 _).size) hu3
                clear hu3
                try rw [← HD.out]
                refine hK.out _ _ ?_ (fun hHeld => ?_)
                · (refine (fun hK : Below w6.heap.size w6 _ => ⟨pw_cell_below hK p0, pw_cell_below hK p1, pw_cell_below hK p2, pw_cell_below hK p3, pw_cell_below hK p4, pw_cell_below hK p5, pw_cell_below hK p6, pw_cell_below hK p7, pw_cell_below hK p8, pw_cell_below hK q0, pw_cell_below hK q1, pw_cell_below hK q2, pw_cell_below hK q3, pw_cell_below hK q4, pw_cell_below hK q5, pw_cell_below hK q6, pw_cell_below hK q7, pw_cell_below hK q8⟩) ?_; repeat' (first | assumption | exact Below.refl _ _ | (refine below_drew ?_) | (refine pw_below_drewN ?_ _)))
                clear hK K
                try simp only [Act.put, List.getElem_toArray, List.getElem_cons_zero, List.getElem_cons_succ, List.setIfInBounds_toArray, List.set_cons_zero, List.set_cons_succ]
                refine wpAnyH_ready (rs := [16]) (by kernel_rfl) (by simp) ?_
                refine AllReadyH.cons rfl (fun K hK => ?_) ?_
                · go_simp
                  refine (wsame_sym ⟨x0, x1, x2, x3, x4, x5, x6, x7, lx⟩ ⟨y0, y1, y2, y3, y4, y5, y6, y7, ly⟩ A0 A1 n0 n1 c0 c1 _ (Kd.C_below HC.out.2.2.2.2.1 (hk3)) (Kd.C_below HC.out.2.2.2.2.2.1 (hk3)) HC.out.2.2.2.2.2.2.2).mono ?_
                  rintro e u4 ⟨rfl, hu4⟩
                  have hk4 : Below w6.heap.size w6 u4 := reach_to' (hk3) (Nat.le_trans (Nat.le_refl _) (hk3 : Below w6.heap.size w6 _).size) hu4
                  clear hu4
                  try rw [← HD.out]
                  refine hK.out _ _ ?_ (fun hHeld => ?_)
                  · (refine (fun hK : Below w6.heap.size w6 _ => ⟨pw_cell_below hK p0, pw_cell_below hK p1, pw_cell_below hK p2, pw_cell_below hK p3, pw_cell_below hK p4, pw_cell_below hK p5, pw_cell_below hK p6, pw_cell_below hK p7, pw_cell_below hK p8, pw_cell_below hK q0, pw_cell_below hK q1, pw_cell_below hK q2, pw_cell_below hK q3, pw_cell_below hK q4, pw_cell_below hK q5, pw_cell_below hK q6, pw_cell_below hK q7, pw_cell_below hK q8⟩) ?_; repeat' (first | assumption | exact Below.refl _ _ | (refine below_drew ?_) | (refine pw_below_drewN ?_ _)))
                  clear hK K
                  try simp only [Act.put, List.getElem_toArray, List.getElem_cons_zero, List.getElem_cons_succ, List.setIfInBounds_toArray, List.set_cons_zero, List.set_cons_succ]
                  refine wpAnyH_take (i := 17) (v := ?_) rfl (by kernel_rfl) (by kernel_rfl) (by kernel_rfl) (fun _ _ _ h => h) (Or.inl ⟨by rfl, ?_⟩) (by assumption) ?_
                  rotate_left 1
                  · intro w hSw; (try dsimp only at hSw); go_simp; try with_reducible rfl
                  try simp only [Act.put, List.getElem_toArray, List.getElem_cons_zero, List.getElem_cons_succ, List.setIfInBounds_toArray, List.set_cons_zero, List.set_cons_succ]
                  refine wpAnyH_take (i := 18) (v := ?_) rfl (by kernel_rfl) (by kernel_rfl) (by kernel_rfl) (fun _ _ _ h => h) (Or.inl ⟨by rfl, ?_⟩) (by assumption) ?_
                  rotate_left 1
                  · intro w hSw; (try dsimp only at hSw); go_simp; try with_reducible rfl
                  try simp only [Act.put, List.getElem_toArray, List.getElem_cons_zero, List.getElem_cons_succ, List.setIfInBounds_toArray, List.set_cons_zero, List.set_cons_succ]
                  refine wpAnyH_take (i := 19) (v := ?_) rfl (by kernel_rfl) (by kernel_rfl) (by kernel_rfl) (fun _ _ _ h => h) (Or.inl ⟨by rfl, ?_⟩) (by assumption) ?_
                  rotate_left 1
                  · intro w hSw; (try dsimp only at hSw); go_simp; try with_reducible rfl
                  try simp only [Act.put, List.getElem_toArray, List.getElem_cons_zero, List.getElem_cons_succ, List.setIfInBounds_toArray, List.set_cons_zero, List.set_cons_succ]
                  refine wpAnyH_take (i := 20) (v := ?_) rfl (by kernel_rfl) (by kernel_rfl) (by kernel_rfl) (fun _ _ _ h => h) (Or.inl ⟨by rfl, ?_⟩) (by assumption) ?_
                  rotate_left 1
                  · intro w hSw; (try dsimp only at hSw); go_simp; try with_reducible rfl
                  try simp only [Act.put, List.getElem_toArray, List.getElem_cons_zero, List.getElem_cons_succ, List.setIfInBounds_toArray, List.set_cons_zero, List.set_cons_succ]
                  refine wpAnyH_take (i := 21) (v := ?_) rfl (by kernel_rfl) (by kernel_rfl) (by kernel_rfl) (fun _ _ _ h => h) (Or.inl ⟨by rfl, ?_⟩) (by assumption) ?_
                  rotate_left 1
                  · intro w hSw; (try dsimp only at hSw); go_simp; try with_reducible rfl
                  try simp only [Act.put, List.getElem_toArray, List.getElem_cons_zero, List.getElem_cons_succ, List.setIfInBounds_toArray, List.set_cons_zero, List.set_cons_succ]
                  refine wpAnyH_ready (rs := [22]) (by kernel_rfl) (by simp) ?_
                  refine AllReadyH.cons rfl (fun K hK => ?_) ?_
                  · go_simp
                    refine (wsame_self ⟨x0, x1, x2, x3, x4, x5, x6, x7, lx⟩ A0 n0 c0 _ (Kd.C_below HC.out.2.2.2.2.1 (hk4)) HC.out.2.2.2.2.2.2.1).mono ?_
                    rintro e u5 ⟨rfl, hu5⟩
                    have hk5 : Below w6.heap.size w6 u5 := reach_to' (hk4) (Nat.le_trans (Nat.le_refl _) (hk4 : Below w6.heap.size w6 _).size) hu5
                    clear hu5
                    refine hK.out _ _ ?_ (fun hHeld => ?_)
                    · (refine (fun hK : Below w6.heap.size w6 _ => ⟨pw_cell_below hK p0, pw_cell_below hK p1, pw_cell_below hK p2, pw_cell_below hK p3, pw_cell_below hK p4, pw_cell_below hK p5, pw_cell_below hK p6, pw_cell_below hK p7, pw_cell_below hK p8, pw_cell_below hK q0, pw_cell_below hK q1, pw_cell_below hK q2, pw_cell_below hK q3, pw_cell_below hK q4, pw_cell_below hK q5, pw_cell_below hK q6, pw_cell_below hK q7, pw_cell_below hK q8⟩) ?_; repeat' (first | assumption | exact Below.refl _ _ | (refine below_drew ?_) | (refine pw_below_drewN ?_ _)))
                    clear hK K
                    try simp only [Act.put, List.getElem_toArray, List.getElem_cons_zero, List.getElem_cons_succ, List.setIfInBounds_toArray, List.set_cons_zero, List.set_cons_succ]
                    refine wpAnyH_take (i := 23) (v := ?_) rfl (by kernel_rfl) (by kernel_rfl) (by kernel_rfl) (fun _ _ _ h => h) (Or.inl ⟨by rfl, ?_⟩) (by assumption) ?_
                    rotate_left 1
                    · intro w hSw; (try dsimp only at hSw); go_simp; try with_reducible rfl
                    try simp only [Act.put, List.getElem_toArray, List.getElem_cons_zero, List.getElem_cons_succ, List.setIfInBounds_toArray, List.set_cons_zero, List.set_cons_succ]
                    refine wpAnyH_take (i := 24) (v := ?_) rfl (by kernel_rfl) (by kernel_rfl) (by kernel_rfl) (fun _ _ _ h => h) (Or.inl ⟨by rfl, ?_⟩) (by assumption) ?_
                    rotate_left 1
                    · intro w hSw; (try dsimp only at hSw); go_simp; try with_reducible rfl
                    try simp only [Act.put, List.getElem_toArray, List.getElem_cons_zero, List.getElem_cons_succ, List.setIfInBounds_toArray, List.set_cons_zero, List.set_cons_succ]
                    refine wpAnyH_done (by kernel_rfl) ?_ _
                    go_wp2
                    go_ret
                    exact ⟨rfl, reach_to' HZ.out.1.2 HZ.out.1.2.size (reach_to' HZ.out.2 HZ.out.2.size hk5)⟩
                  · exact AllReadyH.nil
                · exact AllReadyH.nil
              · exact AllReadyH.nil
            · exact AllReadyH.nil
          · exact AllReadyH.nil
    · rw [decide_eq_false d1]
      have HZ := Aside0.mk (And.intro HB.out hB4)
      clear d1 hh hg hB4
      go_wp2
      go_ret
      exact ⟨rfl, reach_to' HZ.out.1.2 HZ.out.1.2.size HZ.out.2⟩
  · rw [decide_eq_false d0]
    have HZ := Aside0.mk (And.intro HB.out hB3)
    clear d0 hh hg hB3
    go_wp2
    go_ret
    exact ⟨rfl, reach_to' HZ.out.1.2 HZ.out.1.2.size HZ.out.2⟩
end Go.Proofs.YtbgbplbkombfjaaDoor
