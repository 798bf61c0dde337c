/- wire.Bytes at kind 2. -/
import Derived.Test.YtbgbplbkombfjaaDoorWRaw
namespace Go.Proofs.YtbgbplbkombfjaaDoor
open Go.RowKit Go.Proofs.YtbgbplbkombfjaaDoorW.PrintWords SumPlain
set_option linter.unusedVariables false
set_option linter.unusedSimpArgs false
attribute [local go_sem] setCell_drewN alloc_drewN
set_option maxHeartbeats 4000000 in
set_option maxRecDepth 100000 in
theorem wbytes2 (E : Nat → Addr) (src dst ksrc kgrp rank cost : Int) (only : Bool) (l : List Int) (A : Option Addr) (n c : Nat) (w : World) (hE : Errs wireErrs E w) (hw : (⟨2, src, dst, ksrc, kgrp, rank, cost, only, l⟩ : Msg).wf) (hC : Kd.C (Kd.int .u32) w A n l) (hv : validL ⟨2, src, dst, ksrc, kgrp, rank, cost, only, l⟩ = none) (hok : (⟨2, src, dst, ksrc, kgrp, rank, cost, only, l⟩ : Msg).ok) (hl4 : l.length ≤ 4) :
    Calls Tryd.prog 27 #[.agg #[.int .i64 2, .int .u32 src, .int .u32 dst, .int .u32 ksrc, .int .u32 kgrp, .int .i64 rank, .int .i64 cost, .bool only, .slice A n c]] w fun e w' => ∃ v, e = .returned (.tuple #[v, .nilIface]) ∧ (Kd.int .u8).R 5 w' w.heap.size (fun _ => True) v (msgL ⟨2, src, dst, ksrc, kgrp, rank, cost, only, l⟩) ∧ Below w.heap.size w w' := by
  have hu := Tryd.underlying86
  have hu2 := Tryd.underlying56
  have hu3 := Tryd.underlying53
  have hby := rawM_byt ⟨2, src, dst, ksrc, kgrp, rank, cost, only, l⟩ hw hok (by simp) (by simp) hl4
  have hnum : 0 ≤ rank + cost ∧ rank + cost ≤ 65535 := num_sum ⟨2, src, dst, ksrc, kgrp, rank, cost, only, l⟩ hok
  obtain ⟨hn0, hn1⟩ := hnum
  obtain ⟨⟨hr0, hr1⟩, ⟨hc0, hc1⟩, hrest⟩ := id hok
  clear hrest
  simp only at hr0 hr1 hc0 hc1
  rw [msgL]
  rw [rawM2] at hby ⊢
  have HBY := Aside0.mk hby
  clear hby hok
  obtain ⟨W, hW⟩ : ∃ W, W = w.alloc (.cells #[.int .i64 2, .int .u32 src, .int .u32 dst, .int .u32 ksrc, .int .u32 kgrp, .int .i64 rank, .int .i64 cost, .bool only, .slice A n c] 56) := ⟨_, rfl⟩
  have hb0 : Below w.heap.size w W := by rw [hW]; exact below_alloc (Below.refl _ _) _
  have hh : W.heap[w.heap.size]? = some (.cells #[.int .i64 2, .int .u32 src, .int .u32 dst, .int .u32 ksrc, .int .u32 kgrp, .int .i64 rank, .int .i64 cost, .bool only, .slice A n c] 56 (0, 0)) := by rw [hW]; exact heap_alloc_new w _
  have HS := Aside0.mk (And.intro hb0 hh)
  have HX := Aside0.mk hW
  have HW := Aside0.mk (And.intro hw (And.intro hE (And.intro hC (And.intro hv hl4))))
  clear hb0 hh hW hw hE hC hv hl4
  go_enter Tryd.func27, Tryd.ntmps27
  go_wp2_with fail
  have hW := HX.out
  rw [← hW]
  clear HX hW
  obtain ⟨hb0, hh⟩ := HS.out
  clear HS
  obtain ⟨b, hb⟩ : ∃ b, b = w.heap.size := ⟨_, rfl⟩
  rw [← hb] at hh ⊢
  clear hb
  refine (valid_any E ⟨2, src, dst, ksrc, kgrp, rank, cost, only, l⟩ A n c W (HW.out.2.1.below hb0) HW.out.1 (Kd.C_below HW.out.2.2.1 hb0)).mono ?_
  rintro e w2 ⟨rfl, hb2⟩
  rw [HW.out.2.2.2.1]
  simp only [errV]
  have hB2 := reach_to hb0 hb0.size hb2
  replace hh := blk_below hh hb2
  have hlt := blk_lt hh
  clear hb0 hb2
  have p0 := (blk_cell hh 0).trans rfl
  have p1 := (blk_cell hh 1).trans rfl
  have p2 := (blk_cell hh 2).trans rfl
  have p3 := (blk_cell hh 3).trans rfl
  have p4 := (blk_cell hh 4).trans rfl
  have p5 := (blk_cell hh 5).trans rfl
  have p6 := (blk_cell hh 6).trans rfl
  have p7 := (blk_cell hh 7).trans rfl
  have p8 := (blk_cell hh 8).trans rfl
  have hb4 := below_alloc (below_alloc (Below.refl w2.heap.size w2) (.cells #[.bool true, .bool true, .bool true, .bool false, .bool false, .bool false] 86)) (.cells #[.bool true, .bool true, .bool true, .bool false, .bool false, .bool false] 86)
  have hhv := new_at (w2.alloc (.cells #[.bool true, .bool true, .bool true, .bool false, .bool false, .bool false] 86)) (.cells #[.bool true, .bool true, .bool true, .bool false, .bool false, .bool false] 86) (w2.heap.size + 1) (by simp)
  have HQ := Aside0.mk (And.intro (blk_below hh hb4) (And.intro hhv (reach_to hB2 hB2.size hb4)))
  clear hb4 hhv hh hB2
  go_upto_region 5 with (go_at_call 48; refine (of_2 _).mono ?_; rintro e w3 ⟨rfl, rfl⟩)
  clear p0 p1 p2 p3 p4 p5 p6 p7 p8
  obtain ⟨hh, hhv, hB4⟩ := HQ.out
  clear HQ hlt
  generalize (w2.alloc (.cells #[.bool true, .bool true, .bool true, .bool false, .bool false, .bool false] 86)).alloc (.cells #[.bool true, .bool true, .bool true, .bool false, .bool false, .bool false] 86) = W4 at *
  obtain ⟨gh, hgh⟩ : ∃ gh, gh = w2.heap.size + 1 := ⟨_, rfl⟩
  rw [← hgh] at hhv ⊢
  clear hgh
  have p0 := (blk_cell hh 0).trans rfl
  have p1 := (blk_cell hh 1).trans rfl
  have p2 := (blk_cell hh 2).trans rfl
  have p3 := (blk_cell hh 3).trans rfl
  have p4 := (blk_cell hh 4).trans rfl
  have p5 := (blk_cell hh 5).trans rfl
  have p6 := (blk_cell hh 6).trans rfl
  have p7 := (blk_cell hh 7).trans rfl
  have p8 := (blk_cell hh 8).trans rfl
  have q0 := (blk_cell hhv 0).trans rfl
  have q1 := (blk_cell hhv 1).trans rfl
  have q2 := (blk_cell hhv 2).trans rfl
  have q3 := (blk_cell hhv 3).trans rfl
  have q4 := (blk_cell hhv 4).trans rfl
  have q5 := (blk_cell hhv 5).trans rfl
  have HQ := Aside0.mk (And.intro hh (And.intro hhv hB4))
  have hR0 := lit_R .u8 W4 5 [34, 0, 0, 0] W4.heap.size (by simp) (Nat.le_refl _)
  have HR0 := Aside0.mk (And.intro hR0 (below_alloc (Below.refl W4.heap.size W4) (.cells (nums .u8 [34, 0, 0, 0]).toArray 5)))
  have hlt := blk_lt hh
  have hlt2 := blk_lt hhv
  clear hh hhv hB4 hR0
  go_wp2_with fail
  refine (wput_any W4 W4.heap.size _ [34, 0, 0, 0] src _ HR0.out.1 HR0.out.2 (HR0.out.2.size) (by simp) HW.out.1.1).mono ?_
  rintro e u0 ⟨v0, rfl, hR, hB, hs⟩
  have HO0 := Aside0.mk (And.intro hR (And.intro hB hs))
  clear p0 p1 p2 p3 p4 p5 p6 p7 p8
  clear q0 q1 q2 q3 q4 q5
  have hh := blk_below HQ.out.1 hB
  have hhv := blk_below HQ.out.2.1 hB
  have p0 := (blk_cell hh 0).trans rfl
  have p1 := (blk_cell hh 1).trans rfl
  have p2 := (blk_cell hh 2).trans rfl
  have p3 := (blk_cell hh 3).trans rfl
  have p4 := (blk_cell hh 4).trans rfl
  have p5 := (blk_cell hh 5).trans rfl
  have p6 := (blk_cell hh 6).trans rfl
  have p7 := (blk_cell hh 7).trans rfl
  have p8 := (blk_cell hh 8).trans rfl
  have q0 := (blk_cell hhv 0).trans rfl
  have q1 := (blk_cell hhv 1).trans rfl
  have q2 := (blk_cell hhv 2).trans rfl
  have q3 := (blk_cell hhv 3).trans rfl
  have q4 := (blk_cell hhv 4).trans rfl
  have q5 := (blk_cell hhv 5).trans rfl
  clear hh hhv hR hB hs hlt hlt2
  go_wp2_with fail
  refine (wput_any W4 W4.heap.size _ ([34, 0, 0, 0] ++ adB src) dst _ HO0.out.1 HO0.out.2.1 HO0.out.2.2 (by simp [adB]) HW.out.1.2.1).mono ?_
  rintro e u1 ⟨v1, rfl, hR, hB, hs⟩
  have HO1 := Aside0.mk (And.intro hR (And.intro hB hs))
  clear p0 p1 p2 p3 p4 p5 p6 p7 p8
  clear q0 q1 q2 q3 q4 q5
  have hh := blk_below HQ.out.1 hB
  have hhv := blk_below HQ.out.2.1 hB
  have p0 := (blk_cell hh 0).trans rfl
  have p1 := (blk_cell hh 1).trans rfl
  have p2 := (blk_cell hh 2).trans rfl
  have p3 := (blk_cell hh 3).trans rfl
  have p4 := (blk_cell hh 4).trans rfl
  have p5 := (blk_cell hh 5).trans rfl
  have p6 := (blk_cell hh 6).trans rfl
  have p7 := (blk_cell hh 7).trans rfl
  have p8 := (blk_cell hh 8).trans rfl
  have q0 := (blk_cell hhv 0).trans rfl
  have q1 := (blk_cell hhv 1).trans rfl
  have q2 := (blk_cell hhv 2).trans rfl
  have q3 := (blk_cell hhv 3).trans rfl
  have q4 := (blk_cell hhv 4).trans rfl
  have q5 := (blk_cell hhv 5).trans rfl
  clear hh hhv hR hB hs
  go_wp2_with fail
  refine (wput_any W4 W4.heap.size _ ([34, 0, 0, 0] ++ adB src ++ adB dst) ksrc _ HO1.out.1 HO1.out.2.1 HO1.out.2.2 (by simp [adB]) HW.out.1.2.2.1).mono ?_
  rintro e u2 ⟨v2, rfl, hR, hB, hs⟩
  have HO2 := Aside0.mk (And.intro hR (And.intro hB hs))
  clear p0 p1 p2 p3 p4 p5 p6 p7 p8
  clear q0 q1 q2 q3 q4 q5
  have hh := blk_below HQ.out.1 hB
  have hhv := blk_below HQ.out.2.1 hB
  have p0 := (blk_cell hh 0).trans rfl
  have p1 := (blk_cell hh 1).trans rfl
  have p2 := (blk_cell hh 2).trans rfl
  have p3 := (blk_cell hh 3).trans rfl
  have p4 := (blk_cell hh 4).trans rfl
  have p5 := (blk_cell hh 5).trans rfl
  have p6 := (blk_cell hh 6).trans rfl
  have p7 := (blk_cell hh 7).trans rfl
  have p8 := (blk_cell hh 8).trans rfl
  have q0 := (blk_cell hhv 0).trans rfl
  have q1 := (blk_cell hhv 1).trans rfl
  have q2 := (blk_cell hhv 2).trans rfl
  have q3 := (blk_cell hhv 3).trans rfl
  have q4 := (blk_cell hhv 4).trans rfl
  have q5 := (blk_cell hhv 5).trans rfl
  clear hh hhv hR hB hs
  go_wp2_with fail
  refine (wput_any W4 W4.heap.size _ ([34, 0, 0, 0] ++ adB src ++ adB dst ++ adB ksrc) kgrp _ HO2.out.1 HO2.out.2.1 HO2.out.2.2 (by simp [adB]) HW.out.1.2.2.2.1).mono ?_
  rintro e u3 ⟨v3, rfl, hR, hB, hs⟩
  have HO3 := Aside0.mk (And.intro hR (And.intro hB hs))
  clear p0 p1 p2 p3 p4 p5 p6 p7 p8
  clear q0 q1 q2 q3 q4 q5
  have hh := blk_below HQ.out.1 hB
  have hhv := blk_below HQ.out.2.1 hB
  have p0 := (blk_cell hh 0).trans rfl
  have p1 := (blk_cell hh 1).trans rfl
  have p2 := (blk_cell hh 2).trans rfl
  have p3 := (blk_cell hh 3).trans rfl
  have p4 := (blk_cell hh 4).trans rfl
  have p5 := (blk_cell hh 5).trans rfl
  have p6 := (blk_cell hh 6).trans rfl
  have p7 := (blk_cell hh 7).trans rfl
  have p8 := (blk_cell hh 8).trans rfl
  have q0 := (blk_cell hhv 0).trans rfl
  have q1 := (blk_cell hhv 1).trans rfl
  have q2 := (blk_cell hhv 2).trans rfl
  have q3 := (blk_cell hhv 3).trans rfl
  have q4 := (blk_cell hhv 4).trans rfl
  have q5 := (blk_cell hhv 5).trans rfl
  clear hh hhv hR hB hs
  go_wp2_with fail
  obtain ⟨A9, c9, rfl, hle9, hC9⟩ := Kd.R_reads HO3.out.1
  generalize hN : ([34, 0, 0, 0] ++ adB src ++ adB dst ++ adB ksrc ++ adB kgrp).length = N9 at *
  have HN9 := Aside0.mk hN
  clear hN
  refine (put_any A9 N9 c9 ([34, 0, 0, 0] ++ adB src ++ adB dst ++ adB ksrc ++ adB kgrp) 2 _ hC9 HBY.out (by simp [adB, nuB])).mono ?_
  rintro e w9 ⟨v9, rfl, hR9, hb9⟩
  have hB9 := below_then HQ.out.2.2 HQ.out.2.2.size HO3.out.2.1
  clear hC9 hle9
  go_wp2
  go_ret2
  exact ⟨_, rfl, Kd.R_lower hR9 hB9.size, below_then hB9 hB9.size hb9⟩
end Go.Proofs.YtbgbplbkombfjaaDoor
