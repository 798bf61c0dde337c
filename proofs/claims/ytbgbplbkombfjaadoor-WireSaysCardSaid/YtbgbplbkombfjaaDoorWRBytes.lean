/- The document's MsgBytes: any right message. -/
import Derived.Test.YtbgbplbkombfjaaDoorWRaw
import Derived.Test.YtbgbplbkombfjaaDoorSumRef
namespace Go.Proofs.YtbgbplbkombfjaaDoor
open Go.RowKit Go.Proofs.YtbgbplbkombfjaaDoorW.PrintWords SumPlain
set_option linter.unusedVariables false
set_option linter.unusedSimpArgs false
attribute [local go_sem] setCell_drewN alloc_drewN
set_option maxHeartbeats 4000000 in
set_option maxRecDepth 100000 in
theorem rbytes1 (src dst ksrc kgrp rank cost : Int) (only : Bool) (l : List Int) (A : Option Addr) (n c : Nat) (w : World) (hw : (⟨1, src, dst, ksrc, kgrp, rank, cost, only, l⟩ : Msg).wf) (hC : Kd.C (Kd.int .u32) w A n l) (hok : (⟨1, src, dst, ksrc, kgrp, rank, cost, only, l⟩ : Msg).ok) (hl4 : l.length ≤ 4) :
    Calls Tryd.prog 33 #[.agg #[.int .i64 1, .int .u32 src, .int .u32 dst, .int .u32 ksrc, .int .u32 kgrp, .int .i64 rank, .int .i64 cost, .bool only, .slice A n c]] w fun e w' => ∃ v, e = .returned v ∧ (Kd.int .u8).R 5 w' w.heap.size (fun _ => True) v (msgL ⟨1, src, dst, ksrc, kgrp, rank, cost, only, l⟩) ∧ Below w.heap.size w w' := by
  have hu2 := Tryd.underlying56
  have hu3 := Tryd.underlying53
  have hby := rawM_byt ⟨1, src, dst, ksrc, kgrp, rank, cost, only, l⟩ hw hok (by simp) (by simp) hl4
  obtain ⟨⟨hr0, hr1⟩, ⟨hc0, hc1⟩, hrest⟩ := id hok
  simp only at hr0 hr1 hc0 hc1
  have hz : cost = 0 := hrest.2.2.2.2.2.1 (by simp)
  clear hrest
  rw [msgL]
  rw [rawM1] at hby ⊢
  rw [show rank + cost = rank by omega] at hby ⊢
  clear hz
  have HBY := Aside0.mk hby
  clear hby hok
  obtain ⟨W, hW⟩ : ∃ W, W = w.alloc (.cells #[.int .i64 1, .int .u32 src, .int .u32 dst, .int .u32 ksrc, .int .u32 kgrp, .int .i64 rank, .int .i64 cost, .bool only, .slice A n c] 56) := ⟨_, rfl⟩
  have hb0 : Below w.heap.size w W := by rw [hW]; exact below_alloc (Below.refl _ _) _
  have hh : W.heap[w.heap.size]? = some (.cells #[.int .i64 1, .int .u32 src, .int .u32 dst, .int .u32 ksrc, .int .u32 kgrp, .int .i64 rank, .int .i64 cost, .bool only, .slice A n c] 56 (0, 0)) := by rw [hW]; exact heap_alloc_new w _
  have HX := Aside0.mk hW
  have HW := Aside0.mk (And.intro hw (And.intro hC hl4))
  have HS := Aside0.mk (And.intro hb0 hh)
  clear hb0 hh hW hw hC hl4
  go_enter Tryd.func33, Tryd.ntmps33
  go_upto_region 1 with fail
  have hW := HX.out
  rw [← hW]
  clear HX hW
  obtain ⟨hb0, hh⟩ := HS.out
  clear HS
  obtain ⟨b, hb⟩ : ∃ b, b = w.heap.size := ⟨_, rfl⟩
  rw [← hb] at hh ⊢
  clear hb
  have HQ := Aside0.mk (And.intro hh hb0)
  have p0 := (blk_cell hh 0).trans rfl
  have p1 := (blk_cell hh 1).trans rfl
  have p2 := (blk_cell hh 2).trans rfl
  have p3 := (blk_cell hh 3).trans rfl
  have p4 := (blk_cell hh 4).trans rfl
  have p5 := (blk_cell hh 5).trans rfl
  have p6 := (blk_cell hh 6).trans rfl
  have p7 := (blk_cell hh 7).trans rfl
  have p8 := (blk_cell hh 8).trans rfl
  have hltb := blk_lt hh
  have CL := lit_C .u8 W 5 [33, 0, 0, 0] (by simp)
  have hB9 : Below W.heap.size W (W.alloc (.cells (nums .u8 [33, 0, 0, 0]).toArray 5)) := below_alloc (Below.refl _ _) _
  have HL := Aside0.mk (And.intro CL hB9)
  clear CL hB9 hh hb0
  go_wp2_with fail
  clear hltb
  refine (four_any (some ⟨W.heap.size, 0, none⟩) 4 4 ([33, 0, 0, 0]) src _ HL.out.1 (by simp) HW.out.1.1.1 HW.out.1.1.2).mono ?_
  rintro e u0 ⟨v0, rfl, hR, hb⟩
  have hB0 : Below W.heap.size W u0 := reach_to (HL.out.2) (HL.out.2).size hb
  obtain ⟨A0, c0, rfl, hle, hC0⟩ := Kd.R_reads hR
  generalize hN0 : ([33, 0, 0, 0] ++ adB src).length = N0 at *
  have H0 := Aside0.mk (And.intro hC0 hB0)
  clear hC0 hB0 hR hb hle hN0
  clear p0 p1 p2 p3 p4 p5 p6 p7 p8
  have hh := blk_below HQ.out.1 H0.out.2
  have p0 := (blk_cell hh 0).trans rfl
  have p1 := (blk_cell hh 1).trans rfl
  have p2 := (blk_cell hh 2).trans rfl
  have p3 := (blk_cell hh 3).trans rfl
  have p4 := (blk_cell hh 4).trans rfl
  have p5 := (blk_cell hh 5).trans rfl
  have p6 := (blk_cell hh 6).trans rfl
  have p7 := (blk_cell hh 7).trans rfl
  have p8 := (blk_cell hh 8).trans rfl
  clear hh
  go_wp2_with fail
  refine (two_any A0 N0 c0 ([33, 0, 0, 0] ++ adB src) rank _ H0.out.1 (by simp [adB]) hr0 (by omega)).mono ?_
  rintro e u1 ⟨v1, rfl, hR, hb⟩
  have hB1 : Below W.heap.size W u1 := reach_to (H0.out.2) (H0.out.2).size hb
  obtain ⟨A1, c1, rfl, hle, hC1⟩ := Kd.R_reads hR
  generalize hN1 : ([33, 0, 0, 0] ++ adB src ++ nuB rank).length = N1 at *
  have H1 := Aside0.mk (And.intro hC1 hB1)
  clear hC1 hB1 hR hb hle hN1
  clear p0 p1 p2 p3 p4 p5 p6 p7 p8
  have hh := blk_below HQ.out.1 H1.out.2
  have p0 := (blk_cell hh 0).trans rfl
  have p1 := (blk_cell hh 1).trans rfl
  have p2 := (blk_cell hh 2).trans rfl
  have p3 := (blk_cell hh 3).trans rfl
  have p4 := (blk_cell hh 4).trans rfl
  have p5 := (blk_cell hh 5).trans rfl
  have p6 := (blk_cell hh 6).trans rfl
  have p7 := (blk_cell hh 7).trans rfl
  have p8 := (blk_cell hh 8).trans rfl
  clear hh
  go_wp2_with fail
  refine (refput_any A1 N1 c1 ([33, 0, 0, 0] ++ adB src ++ nuB rank) 2 _ H1.out.1 HBY.out (by simp [adB, nuB])).mono ?_
  rintro e w9 ⟨v9, rfl, hR9, hb9⟩
  have hB9 := below_then HQ.out.2 HQ.out.2.size H1.out.2
  go_wp2
  go_ret
  exact ⟨_, rfl, Kd.R_lower hR9 hB9.size, below_then hB9 hB9.size hb9⟩
end Go.Proofs.YtbgbplbkombfjaaDoor
namespace Go.Proofs.YtbgbplbkombfjaaDoor
open Go.RowKit Go.Proofs.YtbgbplbkombfjaaDoorW.PrintWords SumPlain
set_option linter.unusedVariables false
set_option linter.unusedSimpArgs false
attribute [local go_sem] setCell_drewN alloc_drewN
set_option maxHeartbeats 4000000 in
set_option maxRecDepth 100000 in
theorem rbytes2 (src dst ksrc kgrp rank cost : Int) (only : Bool) (l : List Int) (A : Option Addr) (n c : Nat) (w : World) (hw : (⟨2, src, dst, ksrc, kgrp, rank, cost, only, l⟩ : Msg).wf) (hC : Kd.C (Kd.int .u32) w A n l) (hok : (⟨2, src, dst, ksrc, kgrp, rank, cost, only, l⟩ : Msg).ok) (hl4 : l.length ≤ 4) :
    Calls Tryd.prog 33 #[.agg #[.int .i64 2, .int .u32 src, .int .u32 dst, .int .u32 ksrc, .int .u32 kgrp, .int .i64 rank, .int .i64 cost, .bool only, .slice A n c]] w fun e w' => ∃ v, e = .returned v ∧ (Kd.int .u8).R 5 w' w.heap.size (fun _ => True) v (msgL ⟨2, src, dst, ksrc, kgrp, rank, cost, only, l⟩) ∧ Below w.heap.size w w' := by
  have hu2 := Tryd.underlying56
  have hu3 := Tryd.underlying53
  have hby := rawM_byt ⟨2, src, dst, ksrc, kgrp, rank, cost, only, l⟩ hw hok (by simp) (by simp) hl4
  obtain ⟨⟨hr0, hr1⟩, ⟨hc0, hc1⟩, hrest⟩ := id hok
  simp only at hr0 hr1 hc0 hc1
  clear hrest
  rw [msgL]
  rw [rawM2] at hby ⊢
  have HBY := Aside0.mk hby
  clear hby hok
  obtain ⟨W, hW⟩ : ∃ W, W = w.alloc (.cells #[.int .i64 2, .int .u32 src, .int .u32 dst, .int .u32 ksrc, .int .u32 kgrp, .int .i64 rank, .int .i64 cost, .bool only, .slice A n c] 56) := ⟨_, rfl⟩
  have hb0 : Below w.heap.size w W := by rw [hW]; exact below_alloc (Below.refl _ _) _
  have hh : W.heap[w.heap.size]? = some (.cells #[.int .i64 2, .int .u32 src, .int .u32 dst, .int .u32 ksrc, .int .u32 kgrp, .int .i64 rank, .int .i64 cost, .bool only, .slice A n c] 56 (0, 0)) := by rw [hW]; exact heap_alloc_new w _
  have HX := Aside0.mk hW
  have HW := Aside0.mk (And.intro hw (And.intro hC hl4))
  have HS := Aside0.mk (And.intro hb0 hh)
  clear hb0 hh hW hw hC hl4
  go_enter Tryd.func33, Tryd.ntmps33
  go_upto_region 1 with fail
  have hW := HX.out
  rw [← hW]
  clear HX hW
  obtain ⟨hb0, hh⟩ := HS.out
  clear HS
  obtain ⟨b, hb⟩ : ∃ b, b = w.heap.size := ⟨_, rfl⟩
  rw [← hb] at hh ⊢
  clear hb
  have HQ := Aside0.mk (And.intro hh hb0)
  have p0 := (blk_cell hh 0).trans rfl
  have p1 := (blk_cell hh 1).trans rfl
  have p2 := (blk_cell hh 2).trans rfl
  have p3 := (blk_cell hh 3).trans rfl
  have p4 := (blk_cell hh 4).trans rfl
  have p5 := (blk_cell hh 5).trans rfl
  have p6 := (blk_cell hh 6).trans rfl
  have p7 := (blk_cell hh 7).trans rfl
  have p8 := (blk_cell hh 8).trans rfl
  have hltb := blk_lt hh
  have CL := lit_C .u8 W 5 [34, 0, 0, 0] (by simp)
  have hB9 : Below W.heap.size W (W.alloc (.cells (nums .u8 [34, 0, 0, 0]).toArray 5)) := below_alloc (Below.refl _ _) _
  have HL := Aside0.mk (And.intro CL hB9)
  clear CL hB9 hh hb0
  go_wp2_with fail
  clear hltb
  refine (four_any (some ⟨W.heap.size, 0, none⟩) 4 4 ([34, 0, 0, 0]) src _ HL.out.1 (by simp) HW.out.1.1.1 HW.out.1.1.2).mono ?_
  rintro e u0 ⟨v0, rfl, hR, hb⟩
  have hB0 : Below W.heap.size W u0 := reach_to (HL.out.2) (HL.out.2).size hb
  obtain ⟨A0, c0, rfl, hle, hC0⟩ := Kd.R_reads hR
  generalize hN0 : ([34, 0, 0, 0] ++ adB src).length = N0 at *
  have H0 := Aside0.mk (And.intro hC0 hB0)
  clear hC0 hB0 hR hb hle hN0
  clear p0 p1 p2 p3 p4 p5 p6 p7 p8
  have hh := blk_below HQ.out.1 H0.out.2
  have p0 := (blk_cell hh 0).trans rfl
  have p1 := (blk_cell hh 1).trans rfl
  have p2 := (blk_cell hh 2).trans rfl
  have p3 := (blk_cell hh 3).trans rfl
  have p4 := (blk_cell hh 4).trans rfl
  have p5 := (blk_cell hh 5).trans rfl
  have p6 := (blk_cell hh 6).trans rfl
  have p7 := (blk_cell hh 7).trans rfl
  have p8 := (blk_cell hh 8).trans rfl
  clear hh
  go_wp2_with fail
  refine wp_region_held_drew (S := (fun w' => w'.cell? ⟨b, 2, none⟩ = some (.int .u32 dst) ∧ w'.cell? ⟨b, 3, none⟩ = some (.int .u32 ksrc) ∧ w'.cell? ⟨b, 4, none⟩ = some (.int .u32 kgrp))) (by kernel_rfl) ?_ (fun hHeld => ?_)
  · (refine (fun hK : Below u0.heap.size u0 _ => ⟨pw_cell_below hK p2, pw_cell_below hK p3, pw_cell_below hK p4⟩) ?_; (first | assumption | exact Below.refl _ _ | (refine below_drew ?_; first | assumption | exact Below.refl _ _)))
  refine wpAnyH_take (i := 0) (v := ?_) rfl (by kernel_rfl) (by kernel_rfl) (by kernel_rfl) (fun _ _ _ h => h) (Or.inl ⟨by rfl, ?_⟩) (by assumption) ?_
  rotate_left 1
  · intro w hSw; (try dsimp only at hSw); go_simp; try with_reducible rfl
  try simp only [Act.put, List.getElem_toArray, List.getElem_cons_zero, List.getElem_cons_succ, List.setIfInBounds_toArray, List.set_cons_zero, List.set_cons_succ]
  refine wpAnyH_take (i := 1) (v := ?_) rfl (by kernel_rfl) (by kernel_rfl) (by kernel_rfl) (fun _ _ _ h => h) (Or.inl ⟨by rfl, ?_⟩) (by assumption) ?_
  rotate_left 1
  · intro w hSw; (try dsimp only at hSw); go_simp; try with_reducible rfl
  try simp only [Act.put, List.getElem_toArray, List.getElem_cons_zero, List.getElem_cons_succ, List.setIfInBounds_toArray, List.set_cons_zero, List.set_cons_succ]
  refine wpAnyH_take (i := 2) (v := ?_) rfl (by kernel_rfl) (by kernel_rfl) (by kernel_rfl) (fun _ _ _ h => h) (Or.inl ⟨by rfl, ?_⟩) (by assumption) ?_
  rotate_left 1
  · intro w hSw; (try dsimp only at hSw); go_simp; try with_reducible rfl
  try simp only [Act.put, List.getElem_toArray, List.getElem_cons_zero, List.getElem_cons_succ, List.setIfInBounds_toArray, List.set_cons_zero, List.set_cons_succ]
  refine wpAnyH_take (i := 4) (v := ?_) rfl (by kernel_rfl) (by kernel_rfl) (by kernel_rfl) (fun _ _ _ h => h) (Or.inl ⟨by rfl, ?_⟩) (by assumption) ?_
  rotate_left 1
  · intro w hSw; (try dsimp only at hSw); go_simp; try with_reducible rfl
  try simp only [Act.put, List.getElem_toArray, List.getElem_cons_zero, List.getElem_cons_succ, List.setIfInBounds_toArray, List.set_cons_zero, List.set_cons_succ]
  refine wpAnyH_take (i := 5) (v := ?_) rfl (by kernel_rfl) (by kernel_rfl) (by kernel_rfl) (fun _ _ _ h => h) (Or.inl ⟨by rfl, ?_⟩) (by assumption) ?_
  rotate_left 1
  · intro w hSw; (try dsimp only at hSw); go_simp; try with_reducible rfl
  try simp only [Act.put, List.getElem_toArray, List.getElem_cons_zero, List.getElem_cons_succ, List.setIfInBounds_toArray, List.set_cons_zero, List.set_cons_succ]
  refine wpAnyH_take (i := 6) (v := ?_) rfl (by kernel_rfl) (by kernel_rfl) (by kernel_rfl) (fun _ _ _ h => h) (Or.inl ⟨by rfl, ?_⟩) (by assumption) ?_
  rotate_left 1
  · intro w hSw; (try dsimp only at hSw); go_simp; try with_reducible rfl
  try simp only [Act.put, List.getElem_toArray, List.getElem_cons_zero, List.getElem_cons_succ, List.setIfInBounds_toArray, List.set_cons_zero, List.set_cons_succ]
  refine wpAnyH_take (i := 8) (v := ?_) rfl (by kernel_rfl) (by kernel_rfl) (by kernel_rfl) (fun _ _ _ h => h) (Or.inl ⟨by rfl, ?_⟩) (by assumption) ?_
  rotate_left 1
  · intro w hSw; (try dsimp only at hSw); go_simp; try with_reducible rfl
  try simp only [Act.put, List.getElem_toArray, List.getElem_cons_zero, List.getElem_cons_succ, List.setIfInBounds_toArray, List.set_cons_zero, List.set_cons_succ]
  refine wpAnyH_take (i := 9) (v := ?_) rfl (by kernel_rfl) (by kernel_rfl) (by kernel_rfl) (fun _ _ _ h => h) (Or.inl ⟨by rfl, ?_⟩) (by assumption) ?_
  rotate_left 1
  · intro w hSw; (try dsimp only at hSw); go_simp; try with_reducible rfl
  try simp only [Act.put, List.getElem_toArray, List.getElem_cons_zero, List.getElem_cons_succ, List.setIfInBounds_toArray, List.set_cons_zero, List.set_cons_succ]
  refine wpAnyH_take (i := 10) (v := ?_) rfl (by kernel_rfl) (by kernel_rfl) (by kernel_rfl) (fun _ _ _ h => h) (Or.inl ⟨by rfl, ?_⟩) (by assumption) ?_
  rotate_left 1
  · intro w hSw; (try dsimp only at hSw); go_simp; try with_reducible rfl
  try simp only [Act.put, List.getElem_toArray, List.getElem_cons_zero, List.getElem_cons_succ, List.setIfInBounds_toArray, List.set_cons_zero, List.set_cons_succ]
  refine wpAnyH_ready (rs := [3]) (by kernel_rfl) (by simp) ?_
  refine AllReadyH.cons rfl (fun K hK => ?_) ?_
  · go_simp
    refine (four_any A0 N0 c0 ([34, 0, 0, 0] ++ adB src) dst _ (Kd.C_below H0.out.1 (below_drew (Below.refl _ _))) (by simp [adB]) HW.out.1.2.1.1 HW.out.1.2.1.2).mono ?_
    rintro e u1 ⟨v1, rfl, hR1, hb1⟩
    have hk1 : Below u0.heap.size u0 u1 := below_then (below_drew (Below.refl u0.heap.size u0)) (Nat.le_refl _) hb1
    obtain ⟨A1, c1, rfl, hle1, hC1⟩ := Kd.R_reads hR1
    generalize hN1 : ([34, 0, 0, 0] ++ adB src ++ adB dst).length = N1 at *
    refine hK.out _ _ ?_ (fun hHeld => ?_)
    · (refine (fun hK : Below u0.heap.size u0 _ => ⟨pw_cell_below hK p2, pw_cell_below hK p3, pw_cell_below hK p4⟩) ?_; (first | assumption | exact Below.refl _ _ | (refine below_drew ?_; first | assumption | exact Below.refl _ _)))
    clear hK K
    try simp only [Act.put, List.getElem_toArray, List.getElem_cons_zero, List.getElem_cons_succ, List.setIfInBounds_toArray, List.set_cons_zero, List.set_cons_succ]
    refine wpAnyH_ready (rs := [7]) (by kernel_rfl) (by simp) ?_
    refine AllReadyH.cons rfl (fun K hK => ?_) ?_
    · go_simp
      refine (four_any A1 N1 c1 ([34, 0, 0, 0] ++ adB src ++ adB dst) ksrc _ (hC1) (by simp [adB]) HW.out.1.2.2.1.1 HW.out.1.2.2.1.2).mono ?_
      rintro e u2 ⟨v2, rfl, hR2, hb2⟩
      have hk2 : Below u0.heap.size u0 u2 := below_then hk1 hk1.size hb2
      obtain ⟨A2, c2, rfl, hle2, hC2⟩ := Kd.R_reads hR2
      generalize hN2 : ([34, 0, 0, 0] ++ adB src ++ adB dst ++ adB ksrc).length = N2 at *
      refine hK.out _ _ ?_ (fun hHeld => ?_)
      · (refine (fun hK : Below u0.heap.size u0 _ => ⟨pw_cell_below hK p2, pw_cell_below hK p3, pw_cell_below hK p4⟩) ?_; (first | assumption | exact Below.refl _ _ | (refine below_drew ?_; first | assumption | exact Below.refl _ _)))
      clear hK K
      try simp only [Act.put, List.getElem_toArray, List.getElem_cons_zero, List.getElem_cons_succ, List.setIfInBounds_toArray, List.set_cons_zero, List.set_cons_succ]
      refine wpAnyH_ready (rs := [11]) (by kernel_rfl) (by simp) ?_
      refine AllReadyH.cons rfl (fun K hK => ?_) ?_
      · go_simp
        refine (four_any A2 N2 c2 ([34, 0, 0, 0] ++ adB src ++ adB dst ++ adB ksrc) kgrp _ (hC2) (by simp [adB]) HW.out.1.2.2.2.1.1 HW.out.1.2.2.2.1.2).mono ?_
        rintro e u3 ⟨v3, rfl, hR3, hb3⟩
        have hk3 : Below u0.heap.size u0 u3 := below_then hk2 hk2.size hb3
        obtain ⟨A3, c3, rfl, hle3, hC3⟩ := Kd.R_reads hR3
        generalize hN3 : ([34, 0, 0, 0] ++ adB src ++ adB dst ++ adB ksrc ++ adB kgrp).length = N3 at *
        refine hK.out _ _ ?_ (fun hHeld => ?_)
        · (refine (fun hK : Below u0.heap.size u0 _ => ⟨pw_cell_below hK p2, pw_cell_below hK p3, pw_cell_below hK p4⟩) ?_; (first | assumption | exact Below.refl _ _ | (refine below_drew ?_; first | assumption | exact Below.refl _ _)))
        clear hK K
        try simp only [Act.put, List.getElem_toArray, List.getElem_cons_zero, List.getElem_cons_succ, List.setIfInBounds_toArray, List.set_cons_zero, List.set_cons_succ]
        refine wpAnyH_take (i := 12) (v := ?_) rfl (by kernel_rfl) (by kernel_rfl) (by kernel_rfl) (fun _ _ _ h => h) (Or.inl ⟨by rfl, ?_⟩) (by assumption) ?_
        rotate_left 1
        · intro w hSw; (try dsimp only at hSw); go_simp; try with_reducible rfl
        try simp only [Act.put, List.getElem_toArray, List.getElem_cons_zero, List.getElem_cons_succ, List.setIfInBounds_toArray, List.set_cons_zero, List.set_cons_succ]
        refine wpAnyH_done (by kernel_rfl) ?_ _
        have hB3 : Below W.heap.size W u3 := below_then H0.out.2 H0.out.2.size hk3
        have H3 := Aside0.mk (And.intro hC3 hB3)
        clear hC1 hC2 hC3 hB3 hR1 hR2 hR3 hb1 hb2 hb3 hk1 hk2 hk3 hle1 hle2 hle3 hN1 hN2 hN3 hHeld
        clear p0 p1 p2 p3 p4 p5 p6 p7 p8
        have hh := blk_below HQ.out.1 H3.out.2
        have p0 := (blk_cell hh 0).trans rfl
        have p1 := (blk_cell hh 1).trans rfl
        have p2 := (blk_cell hh 2).trans rfl
        have p3 := (blk_cell hh 3).trans rfl
        have p4 := (blk_cell hh 4).trans rfl
        have p5 := (blk_cell hh 5).trans rfl
        have p6 := (blk_cell hh 6).trans rfl
        have p7 := (blk_cell hh 7).trans rfl
        have p8 := (blk_cell hh 8).trans rfl
        clear hh
        go_wp2_with fail
        refine (refput_any A3 N3 c3 ([34, 0, 0, 0] ++ adB src ++ adB dst ++ adB ksrc ++ adB kgrp) 2 _ H3.out.1 HBY.out (by simp [adB, nuB])).mono ?_
        rintro e w9 ⟨v9, rfl, hR9, hb9⟩
        have hB9 := below_then HQ.out.2 HQ.out.2.size H3.out.2
        go_wp2
        go_ret
        exact ⟨_, rfl, Kd.R_lower hR9 hB9.size, below_then hB9 hB9.size hb9⟩
      · exact AllReadyH.nil
    · exact AllReadyH.nil
  · exact AllReadyH.nil
end Go.Proofs.YtbgbplbkombfjaaDoor
namespace Go.Proofs.YtbgbplbkombfjaaDoor
open Go.RowKit Go.Proofs.YtbgbplbkombfjaaDoorW.PrintWords SumPlain
set_option linter.unusedVariables false
set_option linter.unusedSimpArgs false
attribute [local go_sem] setCell_drewN alloc_drewN
set_option maxHeartbeats 4000000 in
set_option maxRecDepth 100000 in
theorem rbytes3 (src dst ksrc kgrp rank cost : Int) (only : Bool) (l : List Int) (A : Option Addr) (n c : Nat) (w : World) (hw : (⟨3, src, dst, ksrc, kgrp, rank, cost, only, l⟩ : Msg).wf) (hC : Kd.C (Kd.int .u32) w A n l) (hok : (⟨3, src, dst, ksrc, kgrp, rank, cost, only, l⟩ : Msg).ok) (hl4 : l.length ≤ 4) :
    Calls Tryd.prog 33 #[.agg #[.int .i64 3, .int .u32 src, .int .u32 dst, .int .u32 ksrc, .int .u32 kgrp, .int .i64 rank, .int .i64 cost, .bool only, .slice A n c]] w fun e w' => ∃ v, e = .returned v ∧ (Kd.int .u8).R 5 w' w.heap.size (fun _ => True) v (msgL ⟨3, src, dst, ksrc, kgrp, rank, cost, only, l⟩) ∧ Below w.heap.size w w' := by
  have hu2 := Tryd.underlying56
  have hu3 := Tryd.underlying53
  have hby := rawM_byt ⟨3, src, dst, ksrc, kgrp, rank, cost, only, l⟩ hw hok (by simp) (by simp) hl4
  obtain ⟨⟨hr0, hr1⟩, ⟨hc0, hc1⟩, hrest⟩ := id hok
  simp only at hr0 hr1 hc0 hc1
  have hz : rank = 0 := hrest.2.2.2.2.1 (by simp)
  clear hrest
  rw [msgL]
  rw [rawM3] at hby ⊢
  rw [show rank + cost = cost by omega] at hby ⊢
  clear hz
  have HBY := Aside0.mk hby
  clear hby hok
  obtain ⟨W, hW⟩ : ∃ W, W = w.alloc (.cells #[.int .i64 3, .int .u32 src, .int .u32 dst, .int .u32 ksrc, .int .u32 kgrp, .int .i64 rank, .int .i64 cost, .bool only, .slice A n c] 56) := ⟨_, rfl⟩
  have hb0 : Below w.heap.size w W := by rw [hW]; exact below_alloc (Below.refl _ _) _
  have hh : W.heap[w.heap.size]? = some (.cells #[.int .i64 3, .int .u32 src, .int .u32 dst, .int .u32 ksrc, .int .u32 kgrp, .int .i64 rank, .int .i64 cost, .bool only, .slice A n c] 56 (0, 0)) := by rw [hW]; exact heap_alloc_new w _
  have HX := Aside0.mk hW
  have HW := Aside0.mk (And.intro hw (And.intro hC hl4))
  have HS := Aside0.mk (And.intro hb0 hh)
  clear hb0 hh hW hw hC hl4
  go_enter Tryd.func33, Tryd.ntmps33
  go_upto_region 1 with fail
  have hW := HX.out
  rw [← hW]
  clear HX hW
  obtain ⟨hb0, hh⟩ := HS.out
  clear HS
  obtain ⟨b, hb⟩ : ∃ b, b = w.heap.size := ⟨_, rfl⟩
  rw [← hb] at hh ⊢
  clear hb
  have HQ := Aside0.mk (And.intro hh hb0)
  have p0 := (blk_cell hh 0).trans rfl
  have p1 := (blk_cell hh 1).trans rfl
  have p2 := (blk_cell hh 2).trans rfl
  have p3 := (blk_cell hh 3).trans rfl
  have p4 := (blk_cell hh 4).trans rfl
  have p5 := (blk_cell hh 5).trans rfl
  have p6 := (blk_cell hh 6).trans rfl
  have p7 := (blk_cell hh 7).trans rfl
  have p8 := (blk_cell hh 8).trans rfl
  have hltb := blk_lt hh
  have CL := lit_C .u8 W 5 [35, 0, 0, 0] (by simp)
  have hB9 : Below W.heap.size W (W.alloc (.cells (nums .u8 [35, 0, 0, 0]).toArray 5)) := below_alloc (Below.refl _ _) _
  have HL := Aside0.mk (And.intro CL hB9)
  clear CL hB9 hh hb0
  go_wp2_with fail
  clear hltb
  refine (four_any (some ⟨W.heap.size, 0, none⟩) 4 4 ([35, 0, 0, 0]) src _ HL.out.1 (by simp) HW.out.1.1.1 HW.out.1.1.2).mono ?_
  rintro e u0 ⟨v0, rfl, hR, hb⟩
  have hB0 : Below W.heap.size W u0 := reach_to (HL.out.2) (HL.out.2).size hb
  obtain ⟨A0, c0, rfl, hle, hC0⟩ := Kd.R_reads hR
  generalize hN0 : ([35, 0, 0, 0] ++ adB src).length = N0 at *
  have H0 := Aside0.mk (And.intro hC0 hB0)
  clear hC0 hB0 hR hb hle hN0
  clear p0 p1 p2 p3 p4 p5 p6 p7 p8
  have hh := blk_below HQ.out.1 H0.out.2
  have p0 := (blk_cell hh 0).trans rfl
  have p1 := (blk_cell hh 1).trans rfl
  have p2 := (blk_cell hh 2).trans rfl
  have p3 := (blk_cell hh 3).trans rfl
  have p4 := (blk_cell hh 4).trans rfl
  have p5 := (blk_cell hh 5).trans rfl
  have p6 := (blk_cell hh 6).trans rfl
  have p7 := (blk_cell hh 7).trans rfl
  have p8 := (blk_cell hh 8).trans rfl
  clear hh
  go_wp2_with fail
  refine wp_region_held_drew (S := (fun w' => w'.cell? ⟨b, 3, none⟩ = some (.int .u32 ksrc) ∧ w'.cell? ⟨b, 4, none⟩ = some (.int .u32 kgrp) ∧ w'.cell? ⟨b, 6, none⟩ = some (.int .i64 cost))) (by kernel_rfl) ?_ (fun hHeld => ?_)
  · (refine (fun hK : Below u0.heap.size u0 _ => ⟨pw_cell_below hK p3, pw_cell_below hK p4, pw_cell_below hK p6⟩) ?_; (first | assumption | exact Below.refl _ _ | (refine below_drew ?_; first | assumption | exact Below.refl _ _)))
  refine wpAnyH_take (i := 0) (v := ?_) rfl (by kernel_rfl) (by kernel_rfl) (by kernel_rfl) (fun _ _ _ h => h) (Or.inl ⟨by rfl, ?_⟩) (by assumption) ?_
  rotate_left 1
  · intro w hSw; (try dsimp only at hSw); go_simp; try with_reducible rfl
  try simp only [Act.put, List.getElem_toArray, List.getElem_cons_zero, List.getElem_cons_succ, List.setIfInBounds_toArray, List.set_cons_zero, List.set_cons_succ]
  refine wpAnyH_take (i := 1) (v := ?_) rfl (by kernel_rfl) (by kernel_rfl) (by kernel_rfl) (fun _ _ _ h => h) (Or.inl ⟨by rfl, ?_⟩) (by assumption) ?_
  rotate_left 1
  · intro w hSw; (try dsimp only at hSw); go_simp; try with_reducible rfl
  try simp only [Act.put, List.getElem_toArray, List.getElem_cons_zero, List.getElem_cons_succ, List.setIfInBounds_toArray, List.set_cons_zero, List.set_cons_succ]
  refine wpAnyH_take (i := 2) (v := ?_) rfl (by kernel_rfl) (by kernel_rfl) (by kernel_rfl) (fun _ _ _ h => h) (Or.inl ⟨by rfl, ?_⟩) (by assumption) ?_
  rotate_left 1
  · intro w hSw; (try dsimp only at hSw); go_simp; try with_reducible rfl
  try simp only [Act.put, List.getElem_toArray, List.getElem_cons_zero, List.getElem_cons_succ, List.setIfInBounds_toArray, List.set_cons_zero, List.set_cons_succ]
  refine wpAnyH_take (i := 3) (v := ?_) rfl (by kernel_rfl) (by kernel_rfl) (by kernel_rfl) (fun _ _ _ h => h) (Or.inl ⟨by rfl, ?_⟩) (by assumption) ?_
  rotate_left 1
  · intro w hSw; (try dsimp only at hSw); go_simp; try with_reducible rfl
  try simp only [Act.put, List.getElem_toArray, List.getElem_cons_zero, List.getElem_cons_succ, List.setIfInBounds_toArray, List.set_cons_zero, List.set_cons_succ]
  refine wpAnyH_take (i := 5) (v := ?_) rfl (by kernel_rfl) (by kernel_rfl) (by kernel_rfl) (fun _ _ _ h => h) (Or.inl ⟨by rfl, ?_⟩) (by assumption) ?_
  rotate_left 1
  · intro w hSw; (try dsimp only at hSw); go_simp; try with_reducible rfl
  try simp only [Act.put, List.getElem_toArray, List.getElem_cons_zero, List.getElem_cons_succ, List.setIfInBounds_toArray, List.set_cons_zero, List.set_cons_succ]
  refine wpAnyH_take (i := 6) (v := ?_) rfl (by kernel_rfl) (by kernel_rfl) (by kernel_rfl) (fun _ _ _ h => h) (Or.inl ⟨by rfl, ?_⟩) (by assumption) ?_
  rotate_left 1
  · intro w hSw; (try dsimp only at hSw); go_simp; try with_reducible rfl
  try simp only [Act.put, List.getElem_toArray, List.getElem_cons_zero, List.getElem_cons_succ, List.setIfInBounds_toArray, List.set_cons_zero, List.set_cons_succ]
  refine wpAnyH_take (i := 7) (v := ?_) rfl (by kernel_rfl) (by kernel_rfl) (by kernel_rfl) (fun _ _ _ h => h) (Or.inl ⟨by rfl, ?_⟩) (by assumption) ?_
  rotate_left 1
  · intro w hSw; (try dsimp only at hSw); go_simp; try with_reducible rfl
  try simp only [Act.put, List.getElem_toArray, List.getElem_cons_zero, List.getElem_cons_succ, List.setIfInBounds_toArray, List.set_cons_zero, List.set_cons_succ]
  refine wpAnyH_take (i := 9) (v := ?_) rfl (by kernel_rfl) (by kernel_rfl) (by kernel_rfl) (fun _ _ _ h => h) (Or.inl ⟨by rfl, ?_⟩) (by assumption) ?_
  rotate_left 1
  · intro w hSw; (try dsimp only at hSw); go_simp; try with_reducible rfl
  try simp only [Act.put, List.getElem_toArray, List.getElem_cons_zero, List.getElem_cons_succ, List.setIfInBounds_toArray, List.set_cons_zero, List.set_cons_succ]
  refine wpAnyH_take (i := 10) (v := ?_) rfl (by kernel_rfl) (by kernel_rfl) (by kernel_rfl) (fun _ _ _ h => h) (Or.inl ⟨by rfl, ?_⟩) (by assumption) ?_
  rotate_left 1
  · intro w hSw; (try dsimp only at hSw); go_simp; try with_reducible rfl
  try simp only [Act.put, List.getElem_toArray, List.getElem_cons_zero, List.getElem_cons_succ, List.setIfInBounds_toArray, List.set_cons_zero, List.set_cons_succ]
  refine wpAnyH_ready (rs := [4]) (by kernel_rfl) (by simp) ?_
  refine AllReadyH.cons rfl (fun K hK => ?_) ?_
  · go_simp
    refine (four_any A0 N0 c0 ([35, 0, 0, 0] ++ adB src) ksrc _ (Kd.C_below H0.out.1 (below_drew (Below.refl _ _))) (by simp [adB]) HW.out.1.2.2.1.1 HW.out.1.2.2.1.2).mono ?_
    rintro e u1 ⟨v1, rfl, hR1, hb1⟩
    have hk1 : Below u0.heap.size u0 u1 := below_then (below_drew (Below.refl u0.heap.size u0)) (Nat.le_refl _) hb1
    obtain ⟨A1, c1, rfl, hle1, hC1⟩ := Kd.R_reads hR1
    generalize hN1 : ([35, 0, 0, 0] ++ adB src ++ adB ksrc).length = N1 at *
    refine hK.out _ _ ?_ (fun hHeld => ?_)
    · (refine (fun hK : Below u0.heap.size u0 _ => ⟨pw_cell_below hK p3, pw_cell_below hK p4, pw_cell_below hK p6⟩) ?_; (first | assumption | exact Below.refl _ _ | (refine below_drew ?_; first | assumption | exact Below.refl _ _)))
    clear hK K
    try simp only [Act.put, List.getElem_toArray, List.getElem_cons_zero, List.getElem_cons_succ, List.setIfInBounds_toArray, List.set_cons_zero, List.set_cons_succ]
    refine wpAnyH_ready (rs := [8]) (by kernel_rfl) (by simp) ?_
    refine AllReadyH.cons rfl (fun K hK => ?_) ?_
    · go_simp
      refine (four_any A1 N1 c1 ([35, 0, 0, 0] ++ adB src ++ adB ksrc) kgrp _ (hC1) (by simp [adB]) HW.out.1.2.2.2.1.1 HW.out.1.2.2.2.1.2).mono ?_
      rintro e u2 ⟨v2, rfl, hR2, hb2⟩
      have hk2 : Below u0.heap.size u0 u2 := below_then hk1 hk1.size hb2
      obtain ⟨A2, c2, rfl, hle2, hC2⟩ := Kd.R_reads hR2
      generalize hN2 : ([35, 0, 0, 0] ++ adB src ++ adB ksrc ++ adB kgrp).length = N2 at *
      refine hK.out _ _ ?_ (fun hHeld => ?_)
      · (refine (fun hK : Below u0.heap.size u0 _ => ⟨pw_cell_below hK p3, pw_cell_below hK p4, pw_cell_below hK p6⟩) ?_; (first | assumption | exact Below.refl _ _ | (refine below_drew ?_; first | assumption | exact Below.refl _ _)))
      clear hK K
      try simp only [Act.put, List.getElem_toArray, List.getElem_cons_zero, List.getElem_cons_succ, List.setIfInBounds_toArray, List.set_cons_zero, List.set_cons_succ]
      refine wpAnyH_ready (rs := [11]) (by kernel_rfl) (by simp) ?_
      refine AllReadyH.cons rfl (fun K hK => ?_) ?_
      · go_simp
        refine (two_any A2 N2 c2 ([35, 0, 0, 0] ++ adB src ++ adB ksrc ++ adB kgrp) cost _ (hC2) (by simp [adB]) hc0 (by omega)).mono ?_
        rintro e u3 ⟨v3, rfl, hR3, hb3⟩
        have hk3 : Below u0.heap.size u0 u3 := below_then hk2 hk2.size hb3
        obtain ⟨A3, c3, rfl, hle3, hC3⟩ := Kd.R_reads hR3
        generalize hN3 : ([35, 0, 0, 0] ++ adB src ++ adB ksrc ++ adB kgrp ++ nuB cost).length = N3 at *
        refine hK.out _ _ ?_ (fun hHeld => ?_)
        · (refine (fun hK : Below u0.heap.size u0 _ => ⟨pw_cell_below hK p3, pw_cell_below hK p4, pw_cell_below hK p6⟩) ?_; (first | assumption | exact Below.refl _ _ | (refine below_drew ?_; first | assumption | exact Below.refl _ _)))
        clear hK K
        try simp only [Act.put, List.getElem_toArray, List.getElem_cons_zero, List.getElem_cons_succ, List.setIfInBounds_toArray, List.set_cons_zero, List.set_cons_succ]
        refine wpAnyH_take (i := 12) (v := ?_) rfl (by kernel_rfl) (by kernel_rfl) (by kernel_rfl) (fun _ _ _ h => h) (Or.inl ⟨by rfl, ?_⟩) (by assumption) ?_
        rotate_left 1
        · intro w hSw; (try dsimp only at hSw); go_simp; try with_reducible rfl
        try simp only [Act.put, List.getElem_toArray, List.getElem_cons_zero, List.getElem_cons_succ, List.setIfInBounds_toArray, List.set_cons_zero, List.set_cons_succ]
        refine wpAnyH_done (by kernel_rfl) ?_ _
        have hB3 : Below W.heap.size W u3 := below_then H0.out.2 H0.out.2.size hk3
        have H3 := Aside0.mk (And.intro hC3 hB3)
        clear hC1 hC2 hC3 hB3 hR1 hR2 hR3 hb1 hb2 hb3 hk1 hk2 hk3 hle1 hle2 hle3 hN1 hN2 hN3 hHeld
        clear p0 p1 p2 p3 p4 p5 p6 p7 p8
        have hh := blk_below HQ.out.1 H3.out.2
        have p0 := (blk_cell hh 0).trans rfl
        have p1 := (blk_cell hh 1).trans rfl
        have p2 := (blk_cell hh 2).trans rfl
        have p3 := (blk_cell hh 3).trans rfl
        have p4 := (blk_cell hh 4).trans rfl
        have p5 := (blk_cell hh 5).trans rfl
        have p6 := (blk_cell hh 6).trans rfl
        have p7 := (blk_cell hh 7).trans rfl
        have p8 := (blk_cell hh 8).trans rfl
        clear hh
        go_wp2_with fail
        refine (refput_any A3 N3 c3 ([35, 0, 0, 0] ++ adB src ++ adB ksrc ++ adB kgrp ++ nuB cost) 2 _ H3.out.1 HBY.out (by simp [adB, nuB])).mono ?_
        rintro e w9 ⟨v9, rfl, hR9, hb9⟩
        have hB9 := below_then HQ.out.2 HQ.out.2.size H3.out.2
        go_wp2
        go_ret
        exact ⟨_, rfl, Kd.R_lower hR9 hB9.size, below_then hB9 hB9.size hb9⟩
      · exact AllReadyH.nil
    · exact AllReadyH.nil
  · exact AllReadyH.nil
end Go.Proofs.YtbgbplbkombfjaaDoor
namespace Go.Proofs.YtbgbplbkombfjaaDoor
open Go.RowKit Go.Proofs.YtbgbplbkombfjaaDoorW.PrintWords SumPlain
set_option linter.unusedVariables false
set_option linter.unusedSimpArgs false
attribute [local go_sem] setCell_drewN alloc_drewN
set_option maxHeartbeats 4000000 in
set_option maxRecDepth 100000 in
theorem rbytes4 (src dst ksrc kgrp rank cost : Int) (only : Bool) (l : List Int) (A : Option Addr) (n c : Nat) (w : World) (hw : (⟨4, src, dst, ksrc, kgrp, rank, cost, only, l⟩ : Msg).wf) (hC : Kd.C (Kd.int .u32) w A n l) (hok : (⟨4, src, dst, ksrc, kgrp, rank, cost, only, l⟩ : Msg).ok) (hl4 : l.length ≤ 4) :
    Calls Tryd.prog 33 #[.agg #[.int .i64 4, .int .u32 src, .int .u32 dst, .int .u32 ksrc, .int .u32 kgrp, .int .i64 rank, .int .i64 cost, .bool only, .slice A n c]] w fun e w' => ∃ v, e = .returned v ∧ (Kd.int .u8).R 5 w' w.heap.size (fun _ => True) v (msgL ⟨4, src, dst, ksrc, kgrp, rank, cost, only, l⟩) ∧ Below w.heap.size w w' := by
  have hu2 := Tryd.underlying56
  have hu3 := Tryd.underlying53
  have hby := rawM_byt ⟨4, src, dst, ksrc, kgrp, rank, cost, only, l⟩ hw hok (by simp) (by simp) hl4
  obtain ⟨⟨hr0, hr1⟩, ⟨hc0, hc1⟩, hrest⟩ := id hok
  simp only at hr0 hr1 hc0 hc1
  clear hrest
  rw [msgL]
  rw [rawM4] at hby ⊢
  have HBY := Aside0.mk hby
  clear hby hok
  obtain ⟨W, hW⟩ : ∃ W, W = w.alloc (.cells #[.int .i64 4, .int .u32 src, .int .u32 dst, .int .u32 ksrc, .int .u32 kgrp, .int .i64 rank, .int .i64 cost, .bool only, .slice A n c] 56) := ⟨_, rfl⟩
  have hb0 : Below w.heap.size w W := by rw [hW]; exact below_alloc (Below.refl _ _) _
  have hh : W.heap[w.heap.size]? = some (.cells #[.int .i64 4, .int .u32 src, .int .u32 dst, .int .u32 ksrc, .int .u32 kgrp, .int .i64 rank, .int .i64 cost, .bool only, .slice A n c] 56 (0, 0)) := by rw [hW]; exact heap_alloc_new w _
  have HX := Aside0.mk hW
  have HW := Aside0.mk (And.intro hw (And.intro hC hl4))
  have HS := Aside0.mk (And.intro hb0 hh)
  clear hb0 hh hW hw hC hl4
  go_enter Tryd.func33, Tryd.ntmps33
  go_upto_region 1 with fail
  have hW := HX.out
  rw [← hW]
  clear HX hW
  obtain ⟨hb0, hh⟩ := HS.out
  clear HS
  obtain ⟨b, hb⟩ : ∃ b, b = w.heap.size := ⟨_, rfl⟩
  rw [← hb] at hh ⊢
  clear hb
  have HQ := Aside0.mk (And.intro hh hb0)
  have p0 := (blk_cell hh 0).trans rfl
  have p1 := (blk_cell hh 1).trans rfl
  have p2 := (blk_cell hh 2).trans rfl
  have p3 := (blk_cell hh 3).trans rfl
  have p4 := (blk_cell hh 4).trans rfl
  have p5 := (blk_cell hh 5).trans rfl
  have p6 := (blk_cell hh 6).trans rfl
  have p7 := (blk_cell hh 7).trans rfl
  have p8 := (blk_cell hh 8).trans rfl
  have hltb := blk_lt hh
  have CL := lit_C .u8 W 5 [36, 0, 0, 0] (by simp)
  have hB9 : Below W.heap.size W (W.alloc (.cells (nums .u8 [36, 0, 0, 0]).toArray 5)) := below_alloc (Below.refl _ _) _
  have HL := Aside0.mk (And.intro CL hB9)
  clear CL hB9 hh hb0
  go_wp2_with fail
  clear hltb
  refine (four_any (some ⟨W.heap.size, 0, none⟩) 4 4 ([36, 0, 0, 0]) src _ HL.out.1 (by simp) HW.out.1.1.1 HW.out.1.1.2).mono ?_
  rintro e u0 ⟨v0, rfl, hR, hb⟩
  have hB0 : Below W.heap.size W u0 := reach_to (HL.out.2) (HL.out.2).size hb
  obtain ⟨A0, c0, rfl, hle, hC0⟩ := Kd.R_reads hR
  generalize hN0 : ([36, 0, 0, 0] ++ adB src).length = N0 at *
  have H0 := Aside0.mk (And.intro hC0 hB0)
  clear hC0 hB0 hR hb hle hN0
  clear p0 p1 p2 p3 p4 p5 p6 p7 p8
  have hh := blk_below HQ.out.1 H0.out.2
  have p0 := (blk_cell hh 0).trans rfl
  have p1 := (blk_cell hh 1).trans rfl
  have p2 := (blk_cell hh 2).trans rfl
  have p3 := (blk_cell hh 3).trans rfl
  have p4 := (blk_cell hh 4).trans rfl
  have p5 := (blk_cell hh 5).trans rfl
  have p6 := (blk_cell hh 6).trans rfl
  have p7 := (blk_cell hh 7).trans rfl
  have p8 := (blk_cell hh 8).trans rfl
  clear hh
  go_wp2_with fail
  refine (four_any A0 N0 c0 ([36, 0, 0, 0] ++ adB src) kgrp _ (H0.out.1) (by simp [adB]) HW.out.1.2.2.2.1.1 HW.out.1.2.2.2.1.2).mono ?_
  rintro e u1 ⟨v1, rfl, hR, hb⟩
  have hB1 : Below W.heap.size W u1 := reach_to H0.out.2 H0.out.2.size hb
  have hR1 := Kd.R_lower hR H0.out.2.size
  have H1 := Aside0.mk (And.intro hR1 hB1)
  clear hB1 hR1 hR hb
  clear p0 p1 p2 p3 p4 p5 p6 p7 p8
  have hh := blk_below HQ.out.1 H1.out.2
  have p0 := (blk_cell hh 0).trans rfl
  have p1 := (blk_cell hh 1).trans rfl
  have p2 := (blk_cell hh 2).trans rfl
  have p3 := (blk_cell hh 3).trans rfl
  have p4 := (blk_cell hh 4).trans rfl
  have p5 := (blk_cell hh 5).trans rfl
  have p6 := (blk_cell hh 6).trans rfl
  have p7 := (blk_cell hh 7).trans rfl
  have p8 := (blk_cell hh 8).trans rfl
  clear hh
  have hn4 : n ≤ 4 := by rw [← HW.out.2.1.1]; exact HW.out.2.2
  cases only
  · skip
    have hlt := blk_lt (blk_below HQ.out.1 H1.out.2)
    go_upto_region 16 with fail
    have CN := lit_C .u8 u1 5 [0, (n : Int)] (by simp)
    have HN := Aside0.mk (And.intro (Kd.R_alloc H1.out.1 (.cells (nums .u8 [0, (n : Int)]).toArray 5)) (And.intro CN (below_alloc' H1.out.2 H1.out.2.size (.cells (nums .u8 [0, (n : Int)]).toArray 5))))
    clear CN
    go_wp2_with (at_builtin; refine Kd.R_append_row (w0 := W) (Value.int .u8) 0 W.heap.size rfl (.tmp 66) (.tmp 72) 26 5 (.int .u8 0) 1 rfl Tryd.underlying26 Tryd.infoB rfl (by decide) v1 ([36, 0, 0, 0] ++ adB src ++ adB kgrp) [0, (n : Int)] (some ⟨u1.heap.size, 0, none⟩) 2 2 (fun _ => True) (by rfl) (by rfl) (fun _ _ => trivial) HN.out.1 HN.out.2.1 HN.out.2.2.1 HN.out.2.2.2 (by simp [adB]) ?_)
    intro va ua hR0 hB hgr _
    have hR : (Kd.int .u8).R 5 ua W.heap.size (fun _ => True) va ([36, 0, 0, 0] ++ adB src ++ adB kgrp ++ [0, (n : Int)]) := by first | exact hR0 | simpa using hR0
    have HOa := Aside0.mk (And.intro hR (And.intro hB (Nat.le_trans HN.out.2.2.2 hgr.size)))
    clear p0 p1 p2 p3 p4 p5 p6 p7 p8
    clear hlt hR0 hR hgr HN
    have hh := blk_below HQ.out.1 hB
    have p0 := (blk_cell hh 0).trans rfl
    have p1 := (blk_cell hh 1).trans rfl
    have p2 := (blk_cell hh 2).trans rfl
    have p3 := (blk_cell hh 3).trans rfl
    have p4 := (blk_cell hh 4).trans rfl
    have p5 := (blk_cell hh 5).trans rfl
    have p6 := (blk_cell hh 6).trans rfl
    have p7 := (blk_cell hh 7).trans rfl
    have p8 := (blk_cell hh 8).trans rfl
    clear hh hB
    go_wp2_with fail
    clear p0 p1 p2 p3 p4 p5 p6 p7 p8
    go_loopg [3, 5] n (fun k v3 v5 wr => ∃ j : Nat, j + k = n ∧ v5 = .int .i64 j ∧ Aside0 ((Kd.int .u8).R 5 wr W.heap.size (fun _ => True) v3 ([36, 0, 0, 0] ++ adB src ++ adB kgrp ++ [0, (n : Int)] ++ adsB (l.take j)) ∧ Below W.heap.size W wr ∧ W.heap.size ≤ wr.heap.size))
    case atStart => exact ⟨0, by omega, rfl, ⟨by simpa [adsB] using HOa.out.1, HOa.out.2⟩⟩
    case round =>
      obtain ⟨j, hj, rfl, HR⟩ := hrel
      have hh := blk_below HQ.out.1 HR.out.2.1
      have p0 := (blk_cell hh 0).trans rfl
      have p1 := (blk_cell hh 1).trans rfl
      have p2 := (blk_cell hh 2).trans rfl
      have p3 := (blk_cell hh 3).trans rfl
      have p4 := (blk_cell hh 4).trans rfl
      have p5 := (blk_cell hh 5).trans rfl
      have p6 := (blk_cell hh 6).trans rfl
      have p7 := (blk_cell hh 7).trans rfl
      have p8 := (blk_cell hh 8).trans rfl
      clear hh
      by_cases hlt : j < n
      · have hCr := Kd.C_below HW.out.2.1 (below_then HQ.out.2 HQ.out.2.size HR.out.2.1)
        obtain ⟨ad, x, hAe, hc, HXX⟩ := at_nat hCr j hlt
        subst hAe
        have hxw : isAd x := by
          have hjl : j < l.length := by rw [HW.out.2.1.1]; exact hlt
          rw [HXX.out, List.getD_eq_getElem?_getD, List.getElem?_eq_getElem hjl]
          exact HW.out.1.2.2.2.2 _ (List.getElem_mem hjl)
        have HS' : Aside0 (adsB (l.take (j + 1)) = adsB (l.take j) ++ adB x) := ⟨by
          have hjl : j < l.length := by rw [HW.out.2.1.1]; exact hlt
          rw [SumPlain.take_snoc l j hjl, ← HXX.out]; simp [adsB]⟩
        have HXW := Aside0.mk hxw
        clear hCr HXX hxw
        have hxl : ([36, 0, 0, 0] ++ adB src ++ adB kgrp ++ [0, (n : Int)] ++ adsB (l.take j)).length ≤ 900000 := by have h := adsB_len (l.take j); have h2 : (l.take j).length ≤ 4 := (by rw [List.length_take]; omega); simp [adB]; omega
        have HXL := Aside0.mk hxl
        clear hxl
        obtain ⟨A3, c3, rfl, hle3, hC3⟩ := Kd.R_reads HR.out.1
        generalize hN3 : ([36, 0, 0, 0] ++ adB src ++ adB kgrp ++ [0, (n : Int)] ++ adsB (l.take j)).length = N3 at *
        have H3 := Aside0.mk hC3
        clear hC3 hle3 hN3
        go_wp2_with fail
        refine (four_any A3 N3 c3 ([36, 0, 0, 0] ++ adB src ++ adB kgrp ++ [0, (n : Int)] ++ adsB (l.take j)) x _ H3.out (by first | exact HXL.out | (rw [H3.out.1]; exact HXL.out)) HXW.out.1 HXW.out.2).mono ?_
        rintro e u9 ⟨v9, rfl, hR, hB⟩
        rw [List.append_assoc, ← HS'.out] at hR
        have HZ := Aside0.mk (And.intro (Kd.R_lower hR HR.out.2.2) (And.intro (below_then HR.out.2.1 HR.out.2.2 hB) (Nat.le_trans HR.out.2.2 hB.size)))
        clear hR hB p0 p1 p2 p3 p4 p5 p6 p7 p8
        go_wp2
        go_roundg (gk - 1)
        case measure => omega
        case rel => exact ⟨j + 1, by omega, by go_num, HZ⟩
      · obtain rfl : n = j := by omega
        have hlj : l.take n = l := List.take_of_length_le (by rw [HW.out.2.1.1]; exact Nat.le_refl _)
        have hR := HR.out.1
        rw [hlj] at hR
        have hxx : [36, 0, 0, 0] ++ adB src ++ adB kgrp ++ [0, (n : Int)] ++ adsB l = [36, 0, 0, 0] ++ adB src ++ adB kgrp ++ [if false = true then 1 else 0, (l.length : Int)] ++ adsB l := by rw [HW.out.2.1.1]; rfl
        rw [hxx] at hR
        obtain ⟨A9, c9, rfl, hle9, hC9⟩ := Kd.R_reads hR
        have hll : ([36, 0, 0, 0] ++ adB src ++ adB kgrp ++ [if false = true then 1 else 0, (l.length : Int)] ++ adsB l).length ≤ 1000000 := by have h := adsB_len l; have h2 := HW.out.2.2; simp [adB]; omega
        generalize hN : ([36, 0, 0, 0] ++ adB src ++ adB kgrp ++ [if false = true then 1 else 0, (l.length : Int)] ++ adsB l).length = N9 at *
        have H9 := Aside0.mk (And.intro hC9 (And.intro hll hN))
        clear hC9 hle9 hN hll hxx hR hlj hlt
        go_wp2_with fail
        refine (refput_any A9 N9 c9 ([36, 0, 0, 0] ++ adB src ++ adB kgrp ++ [if false = true then 1 else 0, (l.length : Int)] ++ adsB l) 2 _ H9.out.1 HBY.out (by first | (rw [H9.out.2.2]; exact H9.out.2.1) | (have h := adsB_len l; have h2 := HW.out.2.2; simp [adB]; omega))).mono ?_
        rintro e w9 ⟨v9, rfl, hR9, hb9⟩
        have hB9 := below_then HQ.out.2 HQ.out.2.size HR.out.2.1
        clear p0 p1 p2 p3 p4 p5 p6 p7 p8
        go_wp2
        go_ret
        exact ⟨_, rfl, Kd.R_lower hR9 hB9.size, below_then hB9 hB9.size hb9⟩
  · skip
    have hlt := blk_lt (blk_below HQ.out.1 H1.out.2)
    go_upto_region 16 with fail
    have CN := lit_C .u8 u1 5 [1, (n : Int)] (by simp)
    have HN := Aside0.mk (And.intro (Kd.R_alloc H1.out.1 (.cells (nums .u8 [1, (n : Int)]).toArray 5)) (And.intro CN (below_alloc' H1.out.2 H1.out.2.size (.cells (nums .u8 [1, (n : Int)]).toArray 5))))
    clear CN
    go_wp2_with (at_builtin; refine Kd.R_append_row (w0 := W) (Value.int .u8) 0 W.heap.size rfl (.tmp 66) (.tmp 72) 26 5 (.int .u8 0) 1 rfl Tryd.underlying26 Tryd.infoB rfl (by decide) v1 ([36, 0, 0, 0] ++ adB src ++ adB kgrp) [1, (n : Int)] (some ⟨u1.heap.size, 0, none⟩) 2 2 (fun _ => True) (by rfl) (by rfl) (fun _ _ => trivial) HN.out.1 HN.out.2.1 HN.out.2.2.1 HN.out.2.2.2 (by simp [adB]) ?_)
    intro va ua hR0 hB hgr _
    have hR : (Kd.int .u8).R 5 ua W.heap.size (fun _ => True) va ([36, 0, 0, 0] ++ adB src ++ adB kgrp ++ [1, (n : Int)]) := by first | exact hR0 | simpa using hR0
    have HOa := Aside0.mk (And.intro hR (And.intro hB (Nat.le_trans HN.out.2.2.2 hgr.size)))
    clear p0 p1 p2 p3 p4 p5 p6 p7 p8
    clear hlt hR0 hR hgr HN
    have hh := blk_below HQ.out.1 hB
    have p0 := (blk_cell hh 0).trans rfl
    have p1 := (blk_cell hh 1).trans rfl
    have p2 := (blk_cell hh 2).trans rfl
    have p3 := (blk_cell hh 3).trans rfl
    have p4 := (blk_cell hh 4).trans rfl
    have p5 := (blk_cell hh 5).trans rfl
    have p6 := (blk_cell hh 6).trans rfl
    have p7 := (blk_cell hh 7).trans rfl
    have p8 := (blk_cell hh 8).trans rfl
    clear hh hB
    go_wp2_with fail
    clear p0 p1 p2 p3 p4 p5 p6 p7 p8
    go_loopg [3, 5] n (fun k v3 v5 wr => ∃ j : Nat, j + k = n ∧ v5 = .int .i64 j ∧ Aside0 ((Kd.int .u8).R 5 wr W.heap.size (fun _ => True) v3 ([36, 0, 0, 0] ++ adB src ++ adB kgrp ++ [1, (n : Int)] ++ adsB (l.take j)) ∧ Below W.heap.size W wr ∧ W.heap.size ≤ wr.heap.size))
    case atStart => exact ⟨0, by omega, rfl, ⟨by simpa [adsB] using HOa.out.1, HOa.out.2⟩⟩
    case round =>
      obtain ⟨j, hj, rfl, HR⟩ := hrel
      have hh := blk_below HQ.out.1 HR.out.2.1
      have p0 := (blk_cell hh 0).trans rfl
      have p1 := (blk_cell hh 1).trans rfl
      have p2 := (blk_cell hh 2).trans rfl
      have p3 := (blk_cell hh 3).trans rfl
      have p4 := (blk_cell hh 4).trans rfl
      have p5 := (blk_cell hh 5).trans rfl
      have p6 := (blk_cell hh 6).trans rfl
      have p7 := (blk_cell hh 7).trans rfl
      have p8 := (blk_cell hh 8).trans rfl
      clear hh
      by_cases hlt : j < n
      · have hCr := Kd.C_below HW.out.2.1 (below_then HQ.out.2 HQ.out.2.size HR.out.2.1)
        obtain ⟨ad, x, hAe, hc, HXX⟩ := at_nat hCr j hlt
        subst hAe
        have hxw : isAd x := by
          have hjl : j < l.length := by rw [HW.out.2.1.1]; exact hlt
          rw [HXX.out, List.getD_eq_getElem?_getD, List.getElem?_eq_getElem hjl]
          exact HW.out.1.2.2.2.2 _ (List.getElem_mem hjl)
        have HS' : Aside0 (adsB (l.take (j + 1)) = adsB (l.take j) ++ adB x) := ⟨by
          have hjl : j < l.length := by rw [HW.out.2.1.1]; exact hlt
          rw [SumPlain.take_snoc l j hjl, ← HXX.out]; simp [adsB]⟩
        have HXW := Aside0.mk hxw
        clear hCr HXX hxw
        have hxl : ([36, 0, 0, 0] ++ adB src ++ adB kgrp ++ [1, (n : Int)] ++ adsB (l.take j)).length ≤ 900000 := by have h := adsB_len (l.take j); have h2 : (l.take j).length ≤ 4 := (by rw [List.length_take]; omega); simp [adB]; omega
        have HXL := Aside0.mk hxl
        clear hxl
        obtain ⟨A3, c3, rfl, hle3, hC3⟩ := Kd.R_reads HR.out.1
        generalize hN3 : ([36, 0, 0, 0] ++ adB src ++ adB kgrp ++ [1, (n : Int)] ++ adsB (l.take j)).length = N3 at *
        have H3 := Aside0.mk hC3
        clear hC3 hle3 hN3
        go_wp2_with fail
        refine (four_any A3 N3 c3 ([36, 0, 0, 0] ++ adB src ++ adB kgrp ++ [1, (n : Int)] ++ adsB (l.take j)) x _ H3.out (by first | exact HXL.out | (rw [H3.out.1]; exact HXL.out)) HXW.out.1 HXW.out.2).mono ?_
        rintro e u9 ⟨v9, rfl, hR, hB⟩
        rw [List.append_assoc, ← HS'.out] at hR
        have HZ := Aside0.mk (And.intro (Kd.R_lower hR HR.out.2.2) (And.intro (below_then HR.out.2.1 HR.out.2.2 hB) (Nat.le_trans HR.out.2.2 hB.size)))
        clear hR hB p0 p1 p2 p3 p4 p5 p6 p7 p8
        go_wp2
        go_roundg (gk - 1)
        case measure => omega
        case rel => exact ⟨j + 1, by omega, by go_num, HZ⟩
      · obtain rfl : n = j := by omega
        have hlj : l.take n = l := List.take_of_length_le (by rw [HW.out.2.1.1]; exact Nat.le_refl _)
        have hR := HR.out.1
        rw [hlj] at hR
        have hxx : [36, 0, 0, 0] ++ adB src ++ adB kgrp ++ [1, (n : Int)] ++ adsB l = [36, 0, 0, 0] ++ adB src ++ adB kgrp ++ [if true = true then 1 else 0, (l.length : Int)] ++ adsB l := by rw [HW.out.2.1.1]; rfl
        rw [hxx] at hR
        obtain ⟨A9, c9, rfl, hle9, hC9⟩ := Kd.R_reads hR
        have hll : ([36, 0, 0, 0] ++ adB src ++ adB kgrp ++ [if true = true then 1 else 0, (l.length : Int)] ++ adsB l).length ≤ 1000000 := by have h := adsB_len l; have h2 := HW.out.2.2; simp [adB]; omega
        generalize hN : ([36, 0, 0, 0] ++ adB src ++ adB kgrp ++ [if true = true then 1 else 0, (l.length : Int)] ++ adsB l).length = N9 at *
        have H9 := Aside0.mk (And.intro hC9 (And.intro hll hN))
        clear hC9 hle9 hN hll hxx hR hlj hlt
        go_wp2_with fail
        refine (refput_any A9 N9 c9 ([36, 0, 0, 0] ++ adB src ++ adB kgrp ++ [if true = true then 1 else 0, (l.length : Int)] ++ adsB l) 2 _ H9.out.1 HBY.out (by first | (rw [H9.out.2.2]; exact H9.out.2.1) | (have h := adsB_len l; have h2 := HW.out.2.2; simp [adB]; omega))).mono ?_
        rintro e w9 ⟨v9, rfl, hR9, hb9⟩
        have hB9 := below_then HQ.out.2 HQ.out.2.size HR.out.2.1
        clear p0 p1 p2 p3 p4 p5 p6 p7 p8
        go_wp2
        go_ret
        exact ⟨_, rfl, Kd.R_lower hR9 hB9.size, below_then hB9 hB9.size hb9⟩
end Go.Proofs.YtbgbplbkombfjaaDoor
namespace Go.Proofs.YtbgbplbkombfjaaDoor
open Go.RowKit Go.Proofs.YtbgbplbkombfjaaDoorW.PrintWords SumPlain
set_option linter.unusedVariables false
set_option linter.unusedSimpArgs false
attribute [local go_sem] setCell_drewN alloc_drewN
set_option maxHeartbeats 4000000 in
set_option maxRecDepth 100000 in
theorem rbytes5 (src dst ksrc kgrp rank cost : Int) (only : Bool) (l : List Int) (A : Option Addr) (n c : Nat) (w : World) (hw : (⟨5, src, dst, ksrc, kgrp, rank, cost, only, l⟩ : Msg).wf) (hC : Kd.C (Kd.int .u32) w A n l) (hok : (⟨5, src, dst, ksrc, kgrp, rank, cost, only, l⟩ : Msg).ok) (hl4 : l.length ≤ 4) :
    Calls Tryd.prog 33 #[.agg #[.int .i64 5, .int .u32 src, .int .u32 dst, .int .u32 ksrc, .int .u32 kgrp, .int .i64 rank, .int .i64 cost, .bool only, .slice A n c]] w fun e w' => ∃ v, e = .returned v ∧ (Kd.int .u8).R 5 w' w.heap.size (fun _ => True) v (msgL ⟨5, src, dst, ksrc, kgrp, rank, cost, only, l⟩) ∧ Below w.heap.size w w' := by
  have hu2 := Tryd.underlying56
  have hu3 := Tryd.underlying53
  have hby := rawM_byt ⟨5, src, dst, ksrc, kgrp, rank, cost, only, l⟩ hw hok (by simp) (by simp) hl4
  obtain ⟨⟨hr0, hr1⟩, ⟨hc0, hc1⟩, hrest⟩ := id hok
  simp only at hr0 hr1 hc0 hc1
  clear hrest
  rw [msgL]
  rw [rawM5] at hby ⊢
  have HBY := Aside0.mk hby
  clear hby hok
  obtain ⟨W, hW⟩ : ∃ W, W = w.alloc (.cells #[.int .i64 5, .int .u32 src, .int .u32 dst, .int .u32 ksrc, .int .u32 kgrp, .int .i64 rank, .int .i64 cost, .bool only, .slice A n c] 56) := ⟨_, rfl⟩
  have hb0 : Below w.heap.size w W := by rw [hW]; exact below_alloc (Below.refl _ _) _
  have hh : W.heap[w.heap.size]? = some (.cells #[.int .i64 5, .int .u32 src, .int .u32 dst, .int .u32 ksrc, .int .u32 kgrp, .int .i64 rank, .int .i64 cost, .bool only, .slice A n c] 56 (0, 0)) := by rw [hW]; exact heap_alloc_new w _
  have HX := Aside0.mk hW
  have HW := Aside0.mk (And.intro hw (And.intro hC hl4))
  have HS := Aside0.mk (And.intro hb0 hh)
  clear hb0 hh hW hw hC hl4
  go_enter Tryd.func33, Tryd.ntmps33
  go_upto_region 1 with fail
  have hW := HX.out
  rw [← hW]
  clear HX hW
  obtain ⟨hb0, hh⟩ := HS.out
  clear HS
  obtain ⟨b, hb⟩ : ∃ b, b = w.heap.size := ⟨_, rfl⟩
  rw [← hb] at hh ⊢
  clear hb
  have HQ := Aside0.mk (And.intro hh hb0)
  have p0 := (blk_cell hh 0).trans rfl
  have p1 := (blk_cell hh 1).trans rfl
  have p2 := (blk_cell hh 2).trans rfl
  have p3 := (blk_cell hh 3).trans rfl
  have p4 := (blk_cell hh 4).trans rfl
  have p5 := (blk_cell hh 5).trans rfl
  have p6 := (blk_cell hh 6).trans rfl
  have p7 := (blk_cell hh 7).trans rfl
  have p8 := (blk_cell hh 8).trans rfl
  have hltb := blk_lt hh
  have CL := lit_C .u8 W 5 [37, 0, 0, 0] (by simp)
  have hB9 : Below W.heap.size W (W.alloc (.cells (nums .u8 [37, 0, 0, 0]).toArray 5)) := below_alloc (Below.refl _ _) _
  have HL := Aside0.mk (And.intro CL hB9)
  clear CL hB9 hh hb0
  go_wp2_with fail
  clear hltb
  refine (four_any (some ⟨W.heap.size, 0, none⟩) 4 4 ([37, 0, 0, 0]) src _ HL.out.1 (by simp) HW.out.1.1.1 HW.out.1.1.2).mono ?_
  rintro e u0 ⟨v0, rfl, hR, hb⟩
  have hB0 : Below W.heap.size W u0 := reach_to (HL.out.2) (HL.out.2).size hb
  obtain ⟨A0, c0, rfl, hle, hC0⟩ := Kd.R_reads hR
  generalize hN0 : ([37, 0, 0, 0] ++ adB src).length = N0 at *
  have H0 := Aside0.mk (And.intro hC0 hB0)
  clear hC0 hB0 hR hb hle hN0
  clear p0 p1 p2 p3 p4 p5 p6 p7 p8
  have hh := blk_below HQ.out.1 H0.out.2
  have p0 := (blk_cell hh 0).trans rfl
  have p1 := (blk_cell hh 1).trans rfl
  have p2 := (blk_cell hh 2).trans rfl
  have p3 := (blk_cell hh 3).trans rfl
  have p4 := (blk_cell hh 4).trans rfl
  have p5 := (blk_cell hh 5).trans rfl
  have p6 := (blk_cell hh 6).trans rfl
  have p7 := (blk_cell hh 7).trans rfl
  have p8 := (blk_cell hh 8).trans rfl
  clear hh
  go_wp2_with fail
  refine (four_any A0 N0 c0 ([37, 0, 0, 0] ++ adB src) kgrp _ (H0.out.1) (by simp [adB]) HW.out.1.2.2.2.1.1 HW.out.1.2.2.2.1.2).mono ?_
  rintro e u1 ⟨v1, rfl, hR, hb⟩
  have hB1 : Below W.heap.size W u1 := reach_to (H0.out.2) (H0.out.2).size hb
  obtain ⟨A1, c1, rfl, hle, hC1⟩ := Kd.R_reads hR
  generalize hN1 : ([37, 0, 0, 0] ++ adB src ++ adB kgrp).length = N1 at *
  have H1 := Aside0.mk (And.intro hC1 hB1)
  clear hC1 hB1 hR hb hle hN1
  clear p0 p1 p2 p3 p4 p5 p6 p7 p8
  have hh := blk_below HQ.out.1 H1.out.2
  have p0 := (blk_cell hh 0).trans rfl
  have p1 := (blk_cell hh 1).trans rfl
  have p2 := (blk_cell hh 2).trans rfl
  have p3 := (blk_cell hh 3).trans rfl
  have p4 := (blk_cell hh 4).trans rfl
  have p5 := (blk_cell hh 5).trans rfl
  have p6 := (blk_cell hh 6).trans rfl
  have p7 := (blk_cell hh 7).trans rfl
  have p8 := (blk_cell hh 8).trans rfl
  clear hh
  go_wp2_with fail
  refine (refput_any A1 N1 c1 ([37, 0, 0, 0] ++ adB src ++ adB kgrp) 2 _ H1.out.1 HBY.out (by simp [adB, nuB])).mono ?_
  rintro e w9 ⟨v9, rfl, hR9, hb9⟩
  have hB9 := below_then HQ.out.2 HQ.out.2.size H1.out.2
  go_wp2
  go_ret
  exact ⟨_, rfl, Kd.R_lower hR9 hB9.size, below_then hB9 hB9.size hb9⟩
end Go.Proofs.YtbgbplbkombfjaaDoor
namespace Go.Proofs.YtbgbplbkombfjaaDoor
open Go.RowKit Go.Proofs.YtbgbplbkombfjaaDoorW.PrintWords SumPlain
set_option linter.unusedVariables false
set_option linter.unusedSimpArgs false
attribute [local go_sem] setCell_drewN alloc_drewN
theorem refmsg_any (m : Msg) (A : Option Addr) (n c : Nat) (w : World) (hw : m.wf) (hC : Kd.C (Kd.int .u32) w A n m.l) (hK : 1 ≤ m.kind ∧ m.kind ≤ 5) (hok : m.ok) (hl4 : m.l.length ≤ 4) :
    Calls Tryd.prog 33 #[.agg (m.cells (.slice A n c))] w fun e w' => ∃ v, e = .returned v ∧ (Kd.int .u8).R 5 w' w.heap.size (fun _ => True) v (msgL m) ∧ Below w.heap.size w w' := by
  obtain ⟨K, src, dst, ksrc, kgrp, rank, cost, only, l⟩ := m
  simp only at hK hl4 hC
  simp only [Msg.cells]
  obtain rfl | rfl | rfl | rfl | rfl : K = 1 ∨ K = 2 ∨ K = 3 ∨ K = 4 ∨ K = 5 := by omega
  · exact rbytes1 src dst ksrc kgrp rank cost only l A n c w hw hC hok hl4
  · exact rbytes2 src dst ksrc kgrp rank cost only l A n c w hw hC hok hl4
  · exact rbytes3 src dst ksrc kgrp rank cost only l A n c w hw hC hok hl4
  · exact rbytes4 src dst ksrc kgrp rank cost only l A n c w hw hC hok hl4
  · exact rbytes5 src dst ksrc kgrp rank cost only l A n c w hw hC hok hl4
end Go.Proofs.YtbgbplbkombfjaaDoor
