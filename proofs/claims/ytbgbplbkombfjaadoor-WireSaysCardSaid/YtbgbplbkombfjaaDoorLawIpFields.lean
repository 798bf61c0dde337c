/- IpFields: the walk of the law. -/
import Derived.Test.YtbgbplbkombfjaaDoorIpFirst
namespace Go.Proofs.YtbgbplbkombfjaaDoor
open Go.RowKit Go.Proofs.YtbgbplbkombfjaaDoorW.PrintWords SumPlain
set_option linter.unusedVariables false
set_option linter.unusedSimpArgs false
attribute [local go_sem] setCell_drewN alloc_drewN
theorem same_hdr (h g : Hdr) (A0 A1 : Option Addr) (c0 c1 : Nat) (w : World) (hk : h.ok) (hw : h.wf) (gk : g.ok) (gw : g.wf) (h0 : Kd.C (Kd.int .u8) w A0 20 (hdrL h)) (h1 : Kd.C (Kd.int .u8) w A1 20 (hdrL g)) :
    Calls Tryd.prog 21 #[.slice A0 20 c0, .slice A1 20 c1] w fun e w' => e = .returned (.bool (decide (h = g))) ∧ ∃ m, w' = w.drewN m := by
  refine (same_any A0 A1 20 20 c0 c1 _ _ w h0 h1 (by rw [hdrL_length]; omega)).mono ?_
  rintro e w' ⟨rfl, ⟨hd⟩⟩
  refine ⟨?_, hd⟩
  congr 2
  rw [decide_eq_decide]
  exact hdrL_inj h g hk hw gk gw
theorem at_z (A : Option Addr) (n c : Nat) (l : List Int) (j : Int) (h0 : 0 ≤ j) (hj : j + 4 ≤ n) (w : World) (hr : Kd.C (Kd.int .u8) w A n l) (hb : Byt l) (hl : l.length ≤ 1000000) :
    Calls Tryd.prog 25 #[.slice A n c, .int .i64 j] w fun e w' => e = .returned (.int .u32 (adAt l j.toNat)) ∧ ∃ m, w' = w.drewN m :=
  (at_any A n c l j j.toNat (by omega) (by omega) w hr hb hl).mono fun e w' ⟨he, ⟨hd⟩⟩ => ⟨he, hd⟩
set_option maxHeartbeats 4000000 in
set_option maxRecDepth 100000 in
theorem ipFields_all (E : Nat → Addr) (h g : Hdr) (w : World) (hE : Errs ipErrs E w) (hw : h.wf) (gw : g.wf) :
    Calls Tryd.prog 5 #[.agg h.cells, .agg g.cells] w fun e w' => e = .returned (.bool true) ∧ Below w.heap.size w w' := by
  have hu := Tryd.underlying25
  obtain ⟨x0, x1, x2, x3, x4, x5⟩ := h
  obtain ⟨y0, y1, y2, y3, y4, y5⟩ := g
  have HW := Aside0.mk (And.intro hw (And.intro gw hE))
  simp only [Hdr.cells]
  clear hw gw hE
  obtain ⟨W, hW⟩ : ∃ W, W = (w.alloc (.cells #[.int .i64 x0, .int .i64 x1, .int .i64 x2, .int .i64 x3, .int .u32 x4, .int .u32 x5] 25)).alloc (.cells #[.int .i64 y0, .int .i64 y1, .int .i64 y2, .int .i64 y3, .int .u32 y4, .int .u32 y5] 25) := ⟨_, rfl⟩
  have hb0 : Below w.heap.size w W := by rw [hW]; exact below_alloc (below_alloc (Below.refl _ _) _) _
  have hh : W.heap[w.heap.size]? = some (.cells #[.int .i64 x0, .int .i64 x1, .int .i64 x2, .int .i64 x3, .int .u32 x4, .int .u32 x5] 25 (0, 0)) := by rw [hW]; exact blk_alloc (heap_alloc_new w _) _
  have hg : W.heap[w.heap.size + 1]? = some (.cells #[.int .i64 y0, .int .i64 y1, .int .i64 y2, .int .i64 y3, .int .u32 y4, .int .u32 y5] 25 (0, 0)) := by rw [hW]; exact new_at _ _ _ (by simp)
  have HS := Aside0.mk (And.intro hb0 (And.intro hh hg))
  have HX := Aside0.mk hW
  clear hb0 hh hg hW
  go_enter Tryd.func5, Tryd.ntmps5
  go_wp2_with fail
  have hW := HX.out
  rw [← hW]
  clear HX hW
  obtain ⟨hb0, hh, hg⟩ := HS.out
  clear HS
  obtain ⟨b, hb⟩ : ∃ b, b = w.heap.size := ⟨_, rfl⟩
  rw [← hb] at hh hg ⊢
  have HB := Aside0.mk hb
  clear hb
  have hE1 := HW.out.2.2.below hb0
  refine (first3_any E W hE1).mono ?_
  rintro e w2 ⟨rfl, hb2⟩
  have hB2 := reach_to hb0 hb0.size hb2
  replace hh := blk_below hh hb2
  replace hg := blk_below hg hb2
  have hE2 := hE1.below hb2
  clear hb0 hE1 hb2
  have p0 := (blk_cell hh 0).trans rfl
  have p1 := (blk_cell hh 1).trans rfl
  have p2 := (blk_cell hh 2).trans rfl
  have p3 := (blk_cell hh 3).trans rfl
  have p4 := (blk_cell hh 4).trans rfl
  have p5 := (blk_cell hh 5).trans rfl
  have HQ := Aside0.mk (And.intro hh (And.intro hg (And.intro hB2 hE2)))
  clear hh hg hB2 hE2
  go_wp2_with fail
  clear p0 p1 p2 p3 p4 p5
  by_cases hk : (⟨x0, x1, x2, x3, x4, x5⟩ : Hdr).ok
  · refine (ipBytes_good ⟨x0, x1, x2, x3, x4, x5⟩ w2 hk HW.out.1).mono ?_
    rintro e w3 ⟨v, rfl, hR, hb3⟩
    obtain ⟨hh, hg, hB2, hE2⟩ := HQ.out
    have hk1 := hk
    obtain ⟨⟨k0, k0'⟩, ⟨k1, k1'⟩, ⟨k2, k2'⟩, k3, k3'⟩ := hk1
    simp only at k0 k0' k1 k1' k2 k2' k3 k3'
    have HK := Aside0.mk hk
    clear hk
    replace hh := blk_below hh hb3
    replace hg := blk_below hg hb3
    have hE3 := hE2.below hb3
    have hB3 := reach_to hB2 hB2.size hb3
    clear hE2 hB2 hb3 HQ
    have q0 := (blk_cell hg 0).trans rfl
    have q1 := (blk_cell hg 1).trans rfl
    have q2 := (blk_cell hg 2).trans rfl
    have q3 := (blk_cell hg 3).trans rfl
    have q4 := (blk_cell hg 4).trans rfl
    have q5 := (blk_cell hg 5).trans rfl
    have HQ := Aside0.mk (And.intro hh (And.intro hg (And.intro hB3 (And.intro hE3 hR))))
    clear hh hg hB3 hE3 hR
    go_wp2_with fail
    clear q0 q1 q2 q3 q4 q5
    refine (ipBytes_any E ⟨y0, y1, y2, y3, y4, y5⟩ w3 HQ.out.2.2.2.1 HW.out.2.1).mono ?_
    rintro e w4 ⟨v2, rfl, hR2, hb4⟩
    obtain ⟨hh, hg, hB3, hE3, hR⟩ := HQ.out
    replace hh := blk_below hh hb4
    replace hg := blk_below hg hb4
    have hB4 := reach_to hB3 hB3.size hb4
    replace hR := Kd.R_below hR hb4
    clear hB3 hE3 hb4 HQ
    obtain ⟨g1, c1, rfl, _⟩ := R_form hR (by rw [hdrL_length]; omega)
    simp only [hdrL_length] at hR ⊢
    obtain ⟨f0, f1, f2, f3, f4, f5⟩ := hdr_fields _ HK.out HW.out.1
    obtain ⟨d0, _, _, _⟩ := hdr_good4 (⟨x0, x1, x2, x3, x4, x5⟩ : Hdr)
    have r0 := (R_nat hR (hdrL_length _) 0 (by omega)).1
    have r2 := (R_nat hR (hdrL_length _) 2 (by omega)).1
    have r3 := (R_nat hR (hdrL_length _) 3 (by omega)).1
    have r4 := (R_nat hR (hdrL_length _) 4 (by omega)).1
    have r5 := (R_nat hR (hdrL_length _) 5 (by omega)).1
    have r8 := (R_nat hR (hdrL_length _) 8 (by omega)).1
    have r9 := (R_nat hR (hdrL_length _) 9 (by omega)).1
    have hby := hdrL_byt _ HK.out HW.out.1
    obtain ⟨u2, u2'⟩ := byt_getD hby 2
    obtain ⟨u3, u3'⟩ := byt_getD hby 3
    obtain ⟨u4, u4'⟩ := byt_getD hby 4
    obtain ⟨u5, u5'⟩ := byt_getD hby 5
    rw [d0] at r0
    rw [f2] at r8
    rw [f3] at r9
    unfold nuAt at f0 f1
    have HY := Aside0.mk (And.intro hby (And.intro (R_C hR).2 (show (hdrL ⟨x0, x1, x2, x3, x4, x5⟩).length ≤ 1000000 by rw [hdrL_length]; omega)))
    have HQ := Aside0.mk (And.intro hh (And.intro hg (And.intro hB4 (And.intro hR hR2))))
    clear hby d0 f2 f3
    simp only [Nat.reduceAdd] at f0 f1
    generalize (hdrL ⟨x0, x1, x2, x3, x4, x5⟩).getD 2 0 = b2 at *
    generalize (hdrL ⟨x0, x1, x2, x3, x4, x5⟩).getD 3 0 = b3 at *
    generalize (hdrL ⟨x0, x1, x2, x3, x4, x5⟩).getD 4 0 = b4 at *
    generalize (hdrL ⟨x0, x1, x2, x3, x4, x5⟩).getD 5 0 = b5 at *
    have t0 : ((b2 * 256 + b3) != x0) = false := bne_eq_false_iff_eq.2 f0
    have t1 : ((b4 * 256 + b5) != x1) = false := bne_eq_false_iff_eq.2 f1
    clear f0 f1
    have p0 := (blk_cell hh 0).trans rfl
    have p1 := (blk_cell hh 1).trans rfl
    have p2 := (blk_cell hh 2).trans rfl
    have p3 := (blk_cell hh 3).trans rfl
    have p4 := (blk_cell hh 4).trans rfl
    have p5 := (blk_cell hh 5).trans rfl
    clear hh hg hB4 hR hR2
    go_wp2_with fail
    go_quiet ((go_at_call 25; exact Calls.quiet_of (at_z (some ⟨g1, 0, none⟩) 20 c1 _ _ (by decide) (by decide) _ (Kd.C_drewN HY.out.2.1 _) HY.out.1 HY.out.2.2)))
    clear r0 r2 r3 r4 r5 r8 r9 t0 t1 u2 u2' u3 u3' u4 u4' u5 u5' p0 p1 p2 p3 p4 p5
    obtain ⟨hh, hg, hB4, hR, hR2⟩ := HQ.out
    by_cases gk : (⟨y0, y1, y2, y3, y4, y5⟩ : Hdr).ok
    · have e1 : (bytesL ⟨y0, y1, y2, y3, y4, y5⟩).2 = none := by unfold bytesL; rw [if_pos gk]
      have e2 : (bytesL ⟨y0, y1, y2, y3, y4, y5⟩).1 = hdrL ⟨y0, y1, y2, y3, y4, y5⟩ := by unfold bytesL; rw [if_pos gk]
      rw [e1]
      rw [e2] at hR2
      simp only [errV]
      clear e1 e2
      obtain ⟨g2, c2, rfl, _⟩ := R_form hR2 (by rw [hdrL_length]; omega)
      simp only [hdrL_length] at hR2 ⊢
      go_wp2_with fail
      generalize hWX : w4.drewN nq = WX at *
      have hbX : Below w4.heap.size w4 WX := by rw [← hWX]; exact pw_below_drewN (Below.refl _ _) _
      replace hh := blk_below hh hbX
      replace hg := blk_below hg hbX
      have CX := Kd.C_below (R_C hR).2 hbX
      have CY := Kd.C_below (R_C hR2).2 hbX
      have hB5 := Aside0.mk (reach_to hB4 hB4.size hbX)
      have p0 := (blk_cell hh 0).trans rfl
      have p1 := (blk_cell hh 1).trans rfl
      have p2 := (blk_cell hh 2).trans rfl
      have p3 := (blk_cell hh 3).trans rfl
      have p4 := (blk_cell hh 4).trans rfl
      have p5 := (blk_cell hh 5).trans rfl
      have q0 := (blk_cell hg 0).trans rfl
      have q1 := (blk_cell hg 1).trans rfl
      have q2 := (blk_cell hg 2).trans rfl
      have q3 := (blk_cell hg 3).trans rfl
      have q4 := (blk_cell hg 4).trans rfl
      have q5 := (blk_cell hg 5).trans rfl
      clear hh hg hR hR2 hbX hWX hB4 HQ
      refine wp_region_held_drew (S := (fun w' => w'.cell? ⟨b, 0, none⟩ = some (.int .i64 x0) ∧ w'.cell? ⟨b, 1, none⟩ = some (.int .i64 x1) ∧ w'.cell? ⟨b, 2, none⟩ = some (.int .i64 x2) ∧ w'.cell? ⟨b, 3, none⟩ = some (.int .i64 x3) ∧ w'.cell? ⟨b, 4, none⟩ = some (.int .u32 x4) ∧ w'.cell? ⟨b, 5, none⟩ = some (.int .u32 x5) ∧ w'.cell? ⟨b + 1, 0, none⟩ = some (.int .i64 y0) ∧ w'.cell? ⟨b + 1, 1, none⟩ = some (.int .i64 y1) ∧ w'.cell? ⟨b + 1, 2, none⟩ = some (.int .i64 y2) ∧ w'.cell? ⟨b + 1, 3, none⟩ = some (.int .i64 y3) ∧ w'.cell? ⟨b + 1, 4, none⟩ = some (.int .u32 y4) ∧ w'.cell? ⟨b + 1, 5, none⟩ = some (.int .u32 y5))) (by kernel_rfl) ?_ (fun hHeld => ?_)
      · (refine (fun hK : Below WX.heap.size WX _ => ⟨pw_cell_below hK p0, pw_cell_below hK p1, pw_cell_below hK p2, pw_cell_below hK p3, pw_cell_below hK p4, pw_cell_below hK p5, pw_cell_below hK q0, pw_cell_below hK q1, pw_cell_below hK q2, pw_cell_below hK q3, pw_cell_below hK q4, pw_cell_below hK q5⟩) ?_; repeat' (first | assumption | exact Below.refl _ _ | (refine below_drew ?_) | (refine pw_below_drewN ?_ _)))
      refine wpAnyH_take (i := 0) (v := ?_) rfl (by kernel_rfl) (by kernel_rfl) (by kernel_rfl) (fun _ _ _ h => h) (Or.inl ⟨by rfl, ?_⟩) (by assumption) ?_
      rotate_left 1
      · intro w hSw; (try dsimp only at hSw); go_simp; try with_reducible rfl
      try simp only [Act.put, List.getElem_toArray, List.getElem_cons_zero, List.getElem_cons_succ, List.setIfInBounds_toArray, List.set_cons_zero, List.set_cons_succ]
      refine wpAnyH_take (i := 1) (v := ?_) rfl (by kernel_rfl) (by kernel_rfl) (by kernel_rfl) (fun _ _ _ h => h) (Or.inl ⟨by rfl, ?_⟩) (by assumption) ?_
      rotate_left 1
      · intro w hSw; (try dsimp only at hSw); go_simp; try with_reducible rfl
      try simp only [Act.put, List.getElem_toArray, List.getElem_cons_zero, List.getElem_cons_succ, List.setIfInBounds_toArray, List.set_cons_zero, List.set_cons_succ]
      refine wpAnyH_take (i := 2) (v := ?_) rfl (by kernel_rfl) (by kernel_rfl) (by kernel_rfl) (fun _ _ _ h => h) (Or.inl ⟨by rfl, ?_⟩) (by assumption) ?_
      rotate_left 1
      · intro w hSw; (try dsimp only at hSw); go_simp; try with_reducible rfl
      try simp only [Act.put, List.getElem_toArray, List.getElem_cons_zero, List.getElem_cons_succ, List.setIfInBounds_toArray, List.set_cons_zero, List.set_cons_succ]
      refine wpAnyH_take (i := 3) (v := ?_) rfl (by kernel_rfl) (by kernel_rfl) (by kernel_rfl) (fun _ _ _ h => h) (Or.inl ⟨by rfl, ?_⟩) (by assumption) ?_
      rotate_left 1
      · intro w hSw; (try dsimp only at hSw); go_simp; try with_reducible rfl
      try simp only [Act.put, List.getElem_toArray, List.getElem_cons_zero, List.getElem_cons_succ, List.setIfInBounds_toArray, List.set_cons_zero, List.set_cons_succ]
      refine wpAnyH_take (i := 4) (v := ?_) rfl (by kernel_rfl) (by kernel_rfl) (by kernel_rfl) (fun _ _ _ h => h) (Or.inl ⟨by rfl, ?_⟩) (by assumption) ?_
      rotate_left 1
      · intro w hSw; (try dsimp only at hSw); go_simp; try with_reducible rfl
      try simp only [Act.put, List.getElem_toArray, List.getElem_cons_zero, List.getElem_cons_succ, List.setIfInBounds_toArray, List.set_cons_zero, List.set_cons_succ]
      refine wpAnyH_take (i := 5) (v := ?_) rfl (by kernel_rfl) (by kernel_rfl) (by kernel_rfl) (fun _ _ _ h => h) (Or.inl ⟨by rfl, ?_⟩) (by assumption) ?_
      rotate_left 1
      · intro w hSw; (try dsimp only at hSw); go_simp; try with_reducible rfl
      try simp only [Act.put, List.getElem_toArray, List.getElem_cons_zero, List.getElem_cons_succ, List.setIfInBounds_toArray, List.set_cons_zero, List.set_cons_succ]
      refine wpAnyH_take (i := 6) (v := ?_) rfl (by kernel_rfl) (by kernel_rfl) (by kernel_rfl) (fun _ _ _ h => h) (Or.inl ⟨by rfl, ?_⟩) (by assumption) ?_
      rotate_left 1
      · intro w hSw; (try dsimp only at hSw); go_simp; try with_reducible rfl
      try simp only [Act.put, List.getElem_toArray, List.getElem_cons_zero, List.getElem_cons_succ, List.setIfInBounds_toArray, List.set_cons_zero, List.set_cons_succ]
      refine wpAnyH_take (i := 8) (v := ?_) rfl (by kernel_rfl) (by kernel_rfl) (by kernel_rfl) (fun _ _ _ h => h) (Or.inl ⟨by rfl, ?_⟩) (by assumption) ?_
      rotate_left 1
      · intro w hSw; (try dsimp only at hSw); go_simp; try with_reducible rfl
      try simp only [Act.put, List.getElem_toArray, List.getElem_cons_zero, List.getElem_cons_succ, List.setIfInBounds_toArray, List.set_cons_zero, List.set_cons_succ]
      refine wpAnyH_take (i := 9) (v := ?_) rfl (by kernel_rfl) (by kernel_rfl) (by kernel_rfl) (fun _ _ _ h => h) (Or.inl ⟨by rfl, ?_⟩) (by assumption) ?_
      rotate_left 1
      · intro w hSw; (try dsimp only at hSw); go_simp; try with_reducible rfl
      try simp only [Act.put, List.getElem_toArray, List.getElem_cons_zero, List.getElem_cons_succ, List.setIfInBounds_toArray, List.set_cons_zero, List.set_cons_succ]
      refine wpAnyH_ready (rs := [7]) (by kernel_rfl) (by simp) ?_
      refine AllReadyH.cons rfl (fun K hK => ?_) ?_
      · go_simp
        refine (same_hdr ⟨x0, x1, x2, x3, x4, x5⟩ ⟨y0, y1, y2, y3, y4, y5⟩ _ _ c1 c2 _ HK.out HW.out.1 gk HW.out.2.1 (Kd.C_below CX (below_drew (Below.refl _ _))) (Kd.C_below CY (below_drew (Below.refl _ _)))).mono ?_
        rintro e wa ⟨rfl, m, rfl⟩
        refine hK.out _ _ ?_ (fun hHeld => ?_)
        · (refine (fun hK : Below WX.heap.size WX _ => ⟨pw_cell_below hK p0, pw_cell_below hK p1, pw_cell_below hK p2, pw_cell_below hK p3, pw_cell_below hK p4, pw_cell_below hK p5, pw_cell_below hK q0, pw_cell_below hK q1, pw_cell_below hK q2, pw_cell_below hK q3, pw_cell_below hK q4, pw_cell_below hK q5⟩) ?_; repeat' (first | assumption | exact Below.refl _ _ | (refine below_drew ?_) | (refine pw_below_drewN ?_ _)))
        clear hK K
        try simp only [Act.put, List.getElem_toArray, List.getElem_cons_zero, List.getElem_cons_succ, List.setIfInBounds_toArray, List.set_cons_zero, List.set_cons_succ]
        refine wpAnyH_ready (rs := [10]) (by kernel_rfl) (by simp) ?_
        refine AllReadyH.cons rfl (fun K hK => ?_) ?_
        · go_simp
          refine (other3_any ⟨y0, y1, y2, y3, y4, y5⟩ _).mono ?_
          rintro e wb ⟨rfl, hbb⟩
          have hk1 : Below WX.heap.size WX wb := reach_to (pw_below_drewN (Below.refl _ _) _) (Nat.le_refl _) hbb
          refine hK.out _ _ ?_ (fun hHeld => ?_)
          · (refine (fun hK : Below WX.heap.size WX _ => ⟨pw_cell_below hK p0, pw_cell_below hK p1, pw_cell_below hK p2, pw_cell_below hK p3, pw_cell_below hK p4, pw_cell_below hK p5, pw_cell_below hK q0, pw_cell_below hK q1, pw_cell_below hK q2, pw_cell_below hK q3, pw_cell_below hK q4, pw_cell_below hK q5⟩) ?_; repeat' (first | assumption | exact Below.refl _ _ | (refine below_drew ?_) | (refine pw_below_drewN ?_ _)))
          clear hK K
          try simp only [Act.put, List.getElem_toArray, List.getElem_cons_zero, List.getElem_cons_succ, List.setIfInBounds_toArray, List.set_cons_zero, List.set_cons_succ]
          refine wpAnyH_ready (rs := [11]) (by kernel_rfl) (by simp) ?_
          refine AllReadyH.cons rfl (fun K hK => ?_) ?_
          · go_simp
            refine (same3_any ⟨x0, x1, x2, x3, x4, x5⟩ ⟨y0, y1, y2, y3, y4, y5⟩ _).mono ?_
            rintro e wc ⟨rfl, hbc⟩
            have hk2 : Below WX.heap.size WX wc := reach_to hk1 hk1.size hbc
            refine hK.out _ _ ?_ (fun hHeld => ?_)
            · (refine (fun hK : Below WX.heap.size WX _ => ⟨pw_cell_below hK p0, pw_cell_below hK p1, pw_cell_below hK p2, pw_cell_below hK p3, pw_cell_below hK p4, pw_cell_below hK p5, pw_cell_below hK q0, pw_cell_below hK q1, pw_cell_below hK q2, pw_cell_below hK q3, pw_cell_below hK q4, pw_cell_below hK q5⟩) ?_; repeat' (first | assumption | exact Below.refl _ _ | (refine below_drew ?_) | (refine pw_below_drewN ?_ _)))
            clear hK K
            try simp only [Act.put, List.getElem_toArray, List.getElem_cons_zero, List.getElem_cons_succ, List.setIfInBounds_toArray, List.set_cons_zero, List.set_cons_succ]
            refine wpAnyH_take (i := 12) (v := ?_) rfl (by kernel_rfl) (by kernel_rfl) (by kernel_rfl) (fun _ _ _ h => h) (Or.inl ⟨by rfl, ?_⟩) (by assumption) ?_
            rotate_left 1
            · intro w hSw; (try dsimp only at hSw); go_simp; try with_reducible rfl
            try simp only [Act.put, List.getElem_toArray, List.getElem_cons_zero, List.getElem_cons_succ, List.setIfInBounds_toArray, List.set_cons_zero, List.set_cons_succ]
            refine wpAnyH_take (i := 13) (v := ?_) rfl (by kernel_rfl) (by kernel_rfl) (by kernel_rfl) (fun _ _ _ h => h) (Or.inl ⟨by rfl, ?_⟩) (by assumption) ?_
            rotate_left 1
            · intro w hSw; (try dsimp only at hSw); go_simp; try with_reducible rfl
            try simp only [Act.put, List.getElem_toArray, List.getElem_cons_zero, List.getElem_cons_succ, List.setIfInBounds_toArray, List.set_cons_zero, List.set_cons_succ]
            refine wpAnyH_take (i := 14) (v := ?_) rfl (by kernel_rfl) (by kernel_rfl) (by kernel_rfl) (fun _ _ _ h => h) (Or.inl ⟨by rfl, ?_⟩) (by assumption) ?_
            rotate_left 1
            · intro w hSw; (try dsimp only at hSw); go_simp; try with_reducible rfl
            try simp only [Act.put, List.getElem_toArray, List.getElem_cons_zero, List.getElem_cons_succ, List.setIfInBounds_toArray, List.set_cons_zero, List.set_cons_succ]
            refine wpAnyH_take (i := 15) (v := ?_) rfl (by kernel_rfl) (by kernel_rfl) (by kernel_rfl) (fun _ _ _ h => h) (Or.inl ⟨by rfl, ?_⟩) (by assumption) ?_
            rotate_left 1
            · intro w hSw; (try dsimp only at hSw); go_simp; try with_reducible rfl
            try simp only [Act.put, List.getElem_toArray, List.getElem_cons_zero, List.getElem_cons_succ, List.setIfInBounds_toArray, List.set_cons_zero, List.set_cons_succ]
            refine wpAnyH_done (by kernel_rfl) ?_ _
            go_wp2
            go_ret
            exact ⟨rfl, reach_to hB5.out hB5.out.size hk2⟩
          · exact AllReadyH.nil
        · exact AllReadyH.nil
      · exact AllReadyH.nil
    · have e1 : (bytesL ⟨y0, y1, y2, y3, y4, y5⟩).2 = some 0 := by unfold bytesL; rw [if_neg gk]
      rw [e1]
      simp only [errV]
      clear e1 hR hR2
      go_wp2
      go_quiet (fail)
      go_wp2
      go_ret
      exact ⟨rfl, pw_below_drewN (pw_below_drewN hB4 _) _⟩
  · refine (ipBytes_bad E ⟨x0, x1, x2, x3, x4, x5⟩ w2 (HQ.out.2.2.2.cell 0 (by simp [ipErrs])) hk).mono ?_
    rintro e w3 ⟨rfl, hb3⟩
    clear hk
    obtain ⟨hh, hg, hB2, hE2⟩ := HQ.out
    replace hg := blk_below hg hb3
    have hE3 := hE2.below hb3
    have hB3 := reach_to hB2 hB2.size hb3
    clear hE2 hB2 hb3 HQ hh
    have q0 := (blk_cell hg 0).trans rfl
    have q1 := (blk_cell hg 1).trans rfl
    have q2 := (blk_cell hg 2).trans rfl
    have q3 := (blk_cell hg 3).trans rfl
    have q4 := (blk_cell hg 4).trans rfl
    have q5 := (blk_cell hg 5).trans rfl
    have HQ := Aside0.mk (And.intro hB3 hE3)
    clear hg hB3 hE3
    go_wp2_with fail
    clear q0 q1 q2 q3 q4 q5
    refine (ipBytes_any E ⟨y0, y1, y2, y3, y4, y5⟩ w3 HQ.out.2 HW.out.2.1).mono ?_
    rintro e w4 ⟨v2, rfl, hR2, hb4⟩
    have hB4 := reach_to HQ.out.1 HQ.out.1.size hb4
    clear hR2 hb4 HQ
    simp only [errV]
    go_wp2
    all_goals go_ret
    all_goals exact ⟨rfl, hB4⟩
end Go.Proofs.YtbgbplbkombfjaaDoor
