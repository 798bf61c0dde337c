/- wire.Bytes at any message. -/
import Derived.Test.YtbgbplbkombfjaaDoorWRaw
namespace Go.Proofs.YtbgbplbkombfjaaDoor
open Go.RowKit Go.Proofs.YtbgbplbkombfjaaDoorW.PrintWords SumPlain
set_option linter.unusedVariables false
set_option linter.unusedSimpArgs false
attribute [local go_sem] setCell_drewN alloc_drewN
set_option maxHeartbeats 4000000 in
set_option maxRecDepth 100000 in
theorem wbytes1 (E : Nat → Addr) (src dst ksrc kgrp rank cost : Int) (only : Bool) (l : List Int) (A : Option Addr) (n c : Nat) (w : World) (hE : Errs wireErrs E w) (hw : (⟨1, src, dst, ksrc, kgrp, rank, cost, only, l⟩ : Msg).wf) (hC : Kd.C (Kd.int .u32) w A n l) (hv : validL ⟨1, src, dst, ksrc, kgrp, rank, cost, only, l⟩ = none) (hok : (⟨1, src, dst, ksrc, kgrp, rank, cost, only, l⟩ : Msg).ok) (hl4 : l.length ≤ 4) :
    Calls Tryd.prog 27 #[.agg #[.int .i64 1, .int .u32 src, .int .u32 dst, .int .u32 ksrc, .int .u32 kgrp, .int .i64 rank, .int .i64 cost, .bool only, .slice A n c]] w fun e w' => ∃ v, e = .returned (.tuple #[v, .nilIface]) ∧ (Kd.int .u8).R 5 w' w.heap.size (fun _ => True) v (msgL ⟨1, src, dst, ksrc, kgrp, rank, cost, only, l⟩) ∧ Below w.heap.size w w' := by
  have hu := Tryd.underlying86
  have hu2 := Tryd.underlying56
  have hu3 := Tryd.underlying53
  have hby := rawM_byt ⟨1, src, dst, ksrc, kgrp, rank, cost, only, l⟩ hw hok (by simp) (by simp) hl4
  have hnum : 0 ≤ rank + cost ∧ rank + cost ≤ 65535 := num_sum ⟨1, src, dst, ksrc, kgrp, rank, cost, only, l⟩ hok
  obtain ⟨hn0, hn1⟩ := hnum
  obtain ⟨⟨hr0, hr1⟩, ⟨hc0, hc1⟩, hrest⟩ := id hok
  clear hrest
  simp only at hr0 hr1 hc0 hc1
  rw [msgL]
  rw [rawM1] at hby ⊢
  have HBY := Aside0.mk hby
  clear hby hok
  obtain ⟨W, hW⟩ : ∃ W, W = w.alloc (.cells #[.int .i64 1, .int .u32 src, .int .u32 dst, .int .u32 ksrc, .int .u32 kgrp, .int .i64 rank, .int .i64 cost, .bool only, .slice A n c] 56) := ⟨_, rfl⟩
  have hb0 : Below w.heap.size w W := by rw [hW]; exact below_alloc (Below.refl _ _) _
  have hh : W.heap[w.heap.size]? = some (.cells #[.int .i64 1, .int .u32 src, .int .u32 dst, .int .u32 ksrc, .int .u32 kgrp, .int .i64 rank, .int .i64 cost, .bool only, .slice A n c] 56 (0, 0)) := by rw [hW]; exact heap_alloc_new w _
  have HS := Aside0.mk (And.intro hb0 hh)
  have HX := Aside0.mk hW
  have HW := Aside0.mk (And.intro hw (And.intro hE (And.intro hC (And.intro hv hl4))))
  clear hb0 hh hW hw hE hC hv hl4
  go_enter Tryd.func27, Tryd.ntmps27
  go_wp2_with fail
  have hW := HX.out
  rw [← hW]
  clear HX hW
  obtain ⟨hb0, hh⟩ := HS.out
  clear HS
  obtain ⟨b, hb⟩ : ∃ b, b = w.heap.size := ⟨_, rfl⟩
  rw [← hb] at hh ⊢
  clear hb
  refine (valid_any E ⟨1, src, dst, ksrc, kgrp, rank, cost, only, l⟩ A n c W (HW.out.2.1.below hb0) HW.out.1 (Kd.C_below HW.out.2.2.1 hb0)).mono ?_
  rintro e w2 ⟨rfl, hb2⟩
  rw [HW.out.2.2.2.1]
  simp only [errV]
  have hB2 := reach_to hb0 hb0.size hb2
  replace hh := blk_below hh hb2
  have hlt := blk_lt hh
  clear hb0 hb2
  have p0 := (blk_cell hh 0).trans rfl
  have p1 := (blk_cell hh 1).trans rfl
  have p2 := (blk_cell hh 2).trans rfl
  have p3 := (blk_cell hh 3).trans rfl
  have p4 := (blk_cell hh 4).trans rfl
  have p5 := (blk_cell hh 5).trans rfl
  have p6 := (blk_cell hh 6).trans rfl
  have p7 := (blk_cell hh 7).trans rfl
  have p8 := (blk_cell hh 8).trans rfl
  have hb4 := below_alloc (below_alloc (Below.refl w2.heap.size w2) (.cells #[.bool false, .bool false, .bool false, .bool true, .bool false, .bool false] 86)) (.cells #[.bool false, .bool false, .bool false, .bool true, .bool false, .bool false] 86)
  have hhv := new_at (w2.alloc (.cells #[.bool false, .bool false, .bool false, .bool true, .bool false, .bool false] 86)) (.cells #[.bool false, .bool false, .bool false, .bool true, .bool false, .bool false] 86) (w2.heap.size + 1) (by simp)
  have HQ := Aside0.mk (And.intro (blk_below hh hb4) (And.intro hhv (reach_to hB2 hB2.size hb4)))
  clear hb4 hhv hh hB2
  go_upto_region 5 with (go_at_call 48; refine (of_1 _).mono ?_; rintro e w3 ⟨rfl, rfl⟩)
  clear p0 p1 p2 p3 p4 p5 p6 p7 p8
  obtain ⟨hh, hhv, hB4⟩ := HQ.out
  clear HQ hlt
  generalize (w2.alloc (.cells #[.bool false, .bool false, .bool false, .bool true, .bool false, .bool false] 86)).alloc (.cells #[.bool false, .bool false, .bool false, .bool true, .bool false, .bool false] 86) = W4 at *
  obtain ⟨gh, hgh⟩ : ∃ gh, gh = w2.heap.size + 1 := ⟨_, rfl⟩
  rw [← hgh] at hhv ⊢
  clear hgh
  have p0 := (blk_cell hh 0).trans rfl
  have p1 := (blk_cell hh 1).trans rfl
  have p2 := (blk_cell hh 2).trans rfl
  have p3 := (blk_cell hh 3).trans rfl
  have p4 := (blk_cell hh 4).trans rfl
  have p5 := (blk_cell hh 5).trans rfl
  have p6 := (blk_cell hh 6).trans rfl
  have p7 := (blk_cell hh 7).trans rfl
  have p8 := (blk_cell hh 8).trans rfl
  have q0 := (blk_cell hhv 0).trans rfl
  have q1 := (blk_cell hhv 1).trans rfl
  have q2 := (blk_cell hhv 2).trans rfl
  have q3 := (blk_cell hhv 3).trans rfl
  have q4 := (blk_cell hhv 4).trans rfl
  have q5 := (blk_cell hhv 5).trans rfl
  have HQ := Aside0.mk (And.intro hh (And.intro hhv hB4))
  have hR0 := lit_R .u8 W4 5 [33, 0, 0, 0] W4.heap.size (by simp) (Nat.le_refl _)
  have HR0 := Aside0.mk (And.intro hR0 (below_alloc (Below.refl W4.heap.size W4) (.cells (nums .u8 [33, 0, 0, 0]).toArray 5)))
  have hlt := blk_lt hh
  have hlt2 := blk_lt hhv
  clear hh hhv hB4 hR0
  go_wp2_with fail
  refine (wput_any W4 W4.heap.size _ [33, 0, 0, 0] src _ HR0.out.1 HR0.out.2 (HR0.out.2.size) (by simp) HW.out.1.1).mono ?_
  rintro e u0 ⟨v0, rfl, hR, hB, hs⟩
  have HO0 := Aside0.mk (And.intro hR (And.intro hB hs))
  clear p0 p1 p2 p3 p4 p5 p6 p7 p8
  clear q0 q1 q2 q3 q4 q5
  have hh := blk_below HQ.out.1 hB
  have hhv := blk_below HQ.out.2.1 hB
  have p0 := (blk_cell hh 0).trans rfl
  have p1 := (blk_cell hh 1).trans rfl
  have p2 := (blk_cell hh 2).trans rfl
  have p3 := (blk_cell hh 3).trans rfl
  have p4 := (blk_cell hh 4).trans rfl
  have p5 := (blk_cell hh 5).trans rfl
  have p6 := (blk_cell hh 6).trans rfl
  have p7 := (blk_cell hh 7).trans rfl
  have p8 := (blk_cell hh 8).trans rfl
  have q0 := (blk_cell hhv 0).trans rfl
  have q1 := (blk_cell hhv 1).trans rfl
  have q2 := (blk_cell hhv 2).trans rfl
  have q3 := (blk_cell hhv 3).trans rfl
  have q4 := (blk_cell hhv 4).trans rfl
  have q5 := (blk_cell hhv 5).trans rfl
  clear hh hhv hR hB hs hlt hlt2
  have CN := lit_C .u8 u0 5 (nuB (rank + cost)) (by simp [nuB])
  have HN := Aside0.mk (And.intro (Kd.R_alloc HO0.out.1 (.cells (nums .u8 (nuB (rank + cost))).toArray 5)) (And.intro CN (below_alloc' HO0.out.2.1 HO0.out.2.2 (.cells (nums .u8 (nuB (rank + cost))).toArray 5))))
  clear CN
  go_wp2_with (at_builtin; refine Kd.R_append_row (w0 := W4) (Value.int .u8) 0 W4.heap.size rfl (.tmp 58) (.tmp 64) 26 5 (.int .u8 0) 1 rfl Tryd.underlying26 Tryd.infoB rfl (by decide) v0 ([33, 0, 0, 0] ++ adB src) (nuB (rank + cost)) (some ⟨u0.heap.size, 0, none⟩) 2 2 (fun _ => True) (by rfl) (by rfl) (fun _ _ => trivial) HN.out.1 HN.out.2.1 HN.out.2.2.1 HN.out.2.2.2 (by simp [adB]) ?_)
  intro va ua hR0 hB hgr _
  have hR : (Kd.int .u8).R 5 ua W4.heap.size (fun _ => True) va ([33, 0, 0, 0] ++ adB src ++ nuB (rank + cost)) := by first | exact hR0 | simpa using hR0
  clear hR0
  have HOa := Aside0.mk (And.intro hR (And.intro hB (Nat.le_trans HN.out.2.2.2 hgr.size)))
  clear p0 p1 p2 p3 p4 p5 p6 p7 p8
  clear q0 q1 q2 q3 q4 q5
  have hh := blk_below HQ.out.1 hB
  have hhv := blk_below HQ.out.2.1 hB
  have p0 := (blk_cell hh 0).trans rfl
  have p1 := (blk_cell hh 1).trans rfl
  have p2 := (blk_cell hh 2).trans rfl
  have p3 := (blk_cell hh 3).trans rfl
  have p4 := (blk_cell hh 4).trans rfl
  have p5 := (blk_cell hh 5).trans rfl
  have p6 := (blk_cell hh 6).trans rfl
  have p7 := (blk_cell hh 7).trans rfl
  have p8 := (blk_cell hh 8).trans rfl
  have q0 := (blk_cell hhv 0).trans rfl
  have q1 := (blk_cell hhv 1).trans rfl
  have q2 := (blk_cell hhv 2).trans rfl
  have q3 := (blk_cell hhv 3).trans rfl
  have q4 := (blk_cell hhv 4).trans rfl
  have q5 := (blk_cell hhv 5).trans rfl
  clear hh hhv hR hB hgr HN
  go_wp2_with fail
  obtain ⟨A9, c9, rfl, hle9, hC9⟩ := Kd.R_reads HOa.out.1
  generalize hN : ([33, 0, 0, 0] ++ adB src ++ nuB (rank + cost)).length = N9 at *
  have HN9 := Aside0.mk hN
  clear hN
  refine (put_any A9 N9 c9 ([33, 0, 0, 0] ++ adB src ++ nuB (rank + cost)) 2 _ hC9 HBY.out (by simp [adB, nuB])).mono ?_
  rintro e w9 ⟨v9, rfl, hR9, hb9⟩
  have hB9 := below_then HQ.out.2.2 HQ.out.2.2.size HOa.out.2.1
  clear hC9 hle9
  go_wp2
  go_ret2
  exact ⟨_, rfl, Kd.R_lower hR9 hB9.size, below_then hB9 hB9.size hb9⟩
end Go.Proofs.YtbgbplbkombfjaaDoor
namespace Go.Proofs.YtbgbplbkombfjaaDoor
open Go.RowKit Go.Proofs.YtbgbplbkombfjaaDoorW.PrintWords SumPlain
set_option linter.unusedVariables false
set_option linter.unusedSimpArgs false
attribute [local go_sem] setCell_drewN alloc_drewN
set_option maxHeartbeats 4000000 in
set_option maxRecDepth 100000 in
theorem wbytes2 (E : Nat → Addr) (src dst ksrc kgrp rank cost : Int) (only : Bool) (l : List Int) (A : Option Addr) (n c : Nat) (w : World) (hE : Errs wireErrs E w) (hw : (⟨2, src, dst, ksrc, kgrp, rank, cost, only, l⟩ : Msg).wf) (hC : Kd.C (Kd.int .u32) w A n l) (hv : validL ⟨2, src, dst, ksrc, kgrp, rank, cost, only, l⟩ = none) (hok : (⟨2, src, dst, ksrc, kgrp, rank, cost, only, l⟩ : Msg).ok) (hl4 : l.length ≤ 4) :
    Calls Tryd.prog 27 #[.agg #[.int .i64 2, .int .u32 src, .int .u32 dst, .int .u32 ksrc, .int .u32 kgrp, .int .i64 rank, .int .i64 cost, .bool only, .slice A n c]] w fun e w' => ∃ v, e = .returned (.tuple #[v, .nilIface]) ∧ (Kd.int .u8).R 5 w' w.heap.size (fun _ => True) v (msgL ⟨2, src, dst, ksrc, kgrp, rank, cost, only, l⟩) ∧ Below w.heap.size w w' := by
  have hu := Tryd.underlying86
  have hu2 := Tryd.underlying56
  have hu3 := Tryd.underlying53
  have hby := rawM_byt ⟨2, src, dst, ksrc, kgrp, rank, cost, only, l⟩ hw hok (by simp) (by simp) hl4
  have hnum : 0 ≤ rank + cost ∧ rank + cost ≤ 65535 := num_sum ⟨2, src, dst, ksrc, kgrp, rank, cost, only, l⟩ hok
  obtain ⟨hn0, hn1⟩ := hnum
  obtain ⟨⟨hr0, hr1⟩, ⟨hc0, hc1⟩, hrest⟩ := id hok
  clear hrest
  simp only at hr0 hr1 hc0 hc1
  rw [msgL]
  rw [rawM2] at hby ⊢
  have HBY := Aside0.mk hby
  clear hby hok
  obtain ⟨W, hW⟩ : ∃ W, W = w.alloc (.cells #[.int .i64 2, .int .u32 src, .int .u32 dst, .int .u32 ksrc, .int .u32 kgrp, .int .i64 rank, .int .i64 cost, .bool only, .slice A n c] 56) := ⟨_, rfl⟩
  have hb0 : Below w.heap.size w W := by rw [hW]; exact below_alloc (Below.refl _ _) _
  have hh : W.heap[w.heap.size]? = some (.cells #[.int .i64 2, .int .u32 src, .int .u32 dst, .int .u32 ksrc, .int .u32 kgrp, .int .i64 rank, .int .i64 cost, .bool only, .slice A n c] 56 (0, 0)) := by rw [hW]; exact heap_alloc_new w _
  have HS := Aside0.mk (And.intro hb0 hh)
  have HX := Aside0.mk hW
  have HW := Aside0.mk (And.intro hw (And.intro hE (And.intro hC (And.intro hv hl4))))
  clear hb0 hh hW hw hE hC hv hl4
  go_enter Tryd.func27, Tryd.ntmps27
  go_wp2_with fail
  have hW := HX.out
  rw [← hW]
  clear HX hW
  obtain ⟨hb0, hh⟩ := HS.out
  clear HS
  obtain ⟨b, hb⟩ : ∃ b, b = w.heap.size := ⟨_, rfl⟩
  rw [← hb] at hh ⊢
  clear hb
  refine (valid_any E ⟨2, src, dst, ksrc, kgrp, rank, cost, only, l⟩ A n c W (HW.out.2.1.below hb0) HW.out.1 (Kd.C_below HW.out.2.2.1 hb0)).mono ?_
  rintro e w2 ⟨rfl, hb2⟩
  rw [HW.out.2.2.2.1]
  simp only [errV]
  have hB2 := reach_to hb0 hb0.size hb2
  replace hh := blk_below hh hb2
  have hlt := blk_lt hh
  clear hb0 hb2
  have p0 := (blk_cell hh 0).trans rfl
  have p1 := (blk_cell hh 1).trans rfl
  have p2 := (blk_cell hh 2).trans rfl
  have p3 := (blk_cell hh 3).trans rfl
  have p4 := (blk_cell hh 4).trans rfl
  have p5 := (blk_cell hh 5).trans rfl
  have p6 := (blk_cell hh 6).trans rfl
  have p7 := (blk_cell hh 7).trans rfl
  have p8 := (blk_cell hh 8).trans rfl
  have hb4 := below_alloc (below_alloc (Below.refl w2.heap.size w2) (.cells #[.bool true, .bool true, .bool true, .bool false, .bool false, .bool false] 86)) (.cells #[.bool true, .bool true, .bool true, .bool false, .bool false, .bool false] 86)
  have hhv := new_at (w2.alloc (.cells #[.bool true, .bool true, .bool true, .bool false, .bool false, .bool false] 86)) (.cells #[.bool true, .bool true, .bool true, .bool false, .bool false, .bool false] 86) (w2.heap.size + 1) (by simp)
  have HQ := Aside0.mk (And.intro (blk_below hh hb4) (And.intro hhv (reach_to hB2 hB2.size hb4)))
  clear hb4 hhv hh hB2
  go_upto_region 5 with (go_at_call 48; refine (of_2 _).mono ?_; rintro e w3 ⟨rfl, rfl⟩)
  clear p0 p1 p2 p3 p4 p5 p6 p7 p8
  obtain ⟨hh, hhv, hB4⟩ := HQ.out
  clear HQ hlt
  generalize (w2.alloc (.cells #[.bool true, .bool true, .bool true, .bool false, .bool false, .bool false] 86)).alloc (.cells #[.bool true, .bool true, .bool true, .bool false, .bool false, .bool false] 86) = W4 at *
  obtain ⟨gh, hgh⟩ : ∃ gh, gh = w2.heap.size + 1 := ⟨_, rfl⟩
  rw [← hgh] at hhv ⊢
  clear hgh
  have p0 := (blk_cell hh 0).trans rfl
  have p1 := (blk_cell hh 1).trans rfl
  have p2 := (blk_cell hh 2).trans rfl
  have p3 := (blk_cell hh 3).trans rfl
  have p4 := (blk_cell hh 4).trans rfl
  have p5 := (blk_cell hh 5).trans rfl
  have p6 := (blk_cell hh 6).trans rfl
  have p7 := (blk_cell hh 7).trans rfl
  have p8 := (blk_cell hh 8).trans rfl
  have q0 := (blk_cell hhv 0).trans rfl
  have q1 := (blk_cell hhv 1).trans rfl
  have q2 := (blk_cell hhv 2).trans rfl
  have q3 := (blk_cell hhv 3).trans rfl
  have q4 := (blk_cell hhv 4).trans rfl
  have q5 := (blk_cell hhv 5).trans rfl
  have HQ := Aside0.mk (And.intro hh (And.intro hhv hB4))
  have hR0 := lit_R .u8 W4 5 [34, 0, 0, 0] W4.heap.size (by simp) (Nat.le_refl _)
  have HR0 := Aside0.mk (And.intro hR0 (below_alloc (Below.refl W4.heap.size W4) (.cells (nums .u8 [34, 0, 0, 0]).toArray 5)))
  have hlt := blk_lt hh
  have hlt2 := blk_lt hhv
  clear hh hhv hB4 hR0
  go_wp2_with fail
  refine (wput_any W4 W4.heap.size _ [34, 0, 0, 0] src _ HR0.out.1 HR0.out.2 (HR0.out.2.size) (by simp) HW.out.1.1).mono ?_
  rintro e u0 ⟨v0, rfl, hR, hB, hs⟩
  have HO0 := Aside0.mk (And.intro hR (And.intro hB hs))
  clear p0 p1 p2 p3 p4 p5 p6 p7 p8
  clear q0 q1 q2 q3 q4 q5
  have hh := blk_below HQ.out.1 hB
  have hhv := blk_below HQ.out.2.1 hB
  have p0 := (blk_cell hh 0).trans rfl
  have p1 := (blk_cell hh 1).trans rfl
  have p2 := (blk_cell hh 2).trans rfl
  have p3 := (blk_cell hh 3).trans rfl
  have p4 := (blk_cell hh 4).trans rfl
  have p5 := (blk_cell hh 5).trans rfl
  have p6 := (blk_cell hh 6).trans rfl
  have p7 := (blk_cell hh 7).trans rfl
  have p8 := (blk_cell hh 8).trans rfl
  have q0 := (blk_cell hhv 0).trans rfl
  have q1 := (blk_cell hhv 1).trans rfl
  have q2 := (blk_cell hhv 2).trans rfl
  have q3 := (blk_cell hhv 3).trans rfl
  have q4 := (blk_cell hhv 4).trans rfl
  have q5 := (blk_cell hhv 5).trans rfl
  clear hh hhv hR hB hs hlt hlt2
  go_wp2_with fail
  refine (wput_any W4 W4.heap.size _ ([34, 0, 0, 0] ++ adB src) dst _ HO0.out.1 HO0.out.2.1 HO0.out.2.2 (by simp [adB]) HW.out.1.2.1).mono ?_
  rintro e u1 ⟨v1, rfl, hR, hB, hs⟩
  have HO1 := Aside0.mk (And.intro hR (And.intro hB hs))
  clear p0 p1 p2 p3 p4 p5 p6 p7 p8
  clear q0 q1 q2 q3 q4 q5
  have hh := blk_below HQ.out.1 hB
  have hhv := blk_below HQ.out.2.1 hB
  have p0 := (blk_cell hh 0).trans rfl
  have p1 := (blk_cell hh 1).trans rfl
  have p2 := (blk_cell hh 2).trans rfl
  have p3 := (blk_cell hh 3).trans rfl
  have p4 := (blk_cell hh 4).trans rfl
  have p5 := (blk_cell hh 5).trans rfl
  have p6 := (blk_cell hh 6).trans rfl
  have p7 := (blk_cell hh 7).trans rfl
  have p8 := (blk_cell hh 8).trans rfl
  have q0 := (blk_cell hhv 0).trans rfl
  have q1 := (blk_cell hhv 1).trans rfl
  have q2 := (blk_cell hhv 2).trans rfl
  have q3 := (blk_cell hhv 3).trans rfl
  have q4 := (blk_cell hhv 4).trans rfl
  have q5 := (blk_cell hhv 5).trans rfl
  clear hh hhv hR hB hs
  go_wp2_with fail
  refine (wput_any W4 W4.heap.size _ ([34, 0, 0, 0] ++ adB src ++ adB dst) ksrc _ HO1.out.1 HO1.out.2.1 HO1.out.2.2 (by simp [adB]) HW.out.1.2.2.1).mono ?_
  rintro e u2 ⟨v2, rfl, hR, hB, hs⟩
  have HO2 := Aside0.mk (And.intro hR (And.intro hB hs))
  clear p0 p1 p2 p3 p4 p5 p6 p7 p8
  clear q0 q1 q2 q3 q4 q5
  have hh := blk_below HQ.out.1 hB
  have hhv := blk_below HQ.out.2.1 hB
  have p0 := (blk_cell hh 0).trans rfl
  have p1 := (blk_cell hh 1).trans rfl
  have p2 := (blk_cell hh 2).trans rfl
  have p3 := (blk_cell hh 3).trans rfl
  have p4 := (blk_cell hh 4).trans rfl
  have p5 := (blk_cell hh 5).trans rfl
  have p6 := (blk_cell hh 6).trans rfl
  have p7 := (blk_cell hh 7).trans rfl
  have p8 := (blk_cell hh 8).trans rfl
  have q0 := (blk_cell hhv 0).trans rfl
  have q1 := (blk_cell hhv 1).trans rfl
  have q2 := (blk_cell hhv 2).trans rfl
  have q3 := (blk_cell hhv 3).trans rfl
  have q4 := (blk_cell hhv 4).trans rfl
  have q5 := (blk_cell hhv 5).trans rfl
  clear hh hhv hR hB hs
  go_wp2_with fail
  refine (wput_any W4 W4.heap.size _ ([34, 0, 0, 0] ++ adB src ++ adB dst ++ adB ksrc) kgrp _ HO2.out.1 HO2.out.2.1 HO2.out.2.2 (by simp [adB]) HW.out.1.2.2.2.1).mono ?_
  rintro e u3 ⟨v3, rfl, hR, hB, hs⟩
  have HO3 := Aside0.mk (And.intro hR (And.intro hB hs))
  clear p0 p1 p2 p3 p4 p5 p6 p7 p8
  clear q0 q1 q2 q3 q4 q5
  have hh := blk_below HQ.out.1 hB
  have hhv := blk_below HQ.out.2.1 hB
  have p0 := (blk_cell hh 0).trans rfl
  have p1 := (blk_cell hh 1).trans rfl
  have p2 := (blk_cell hh 2).trans rfl
  have p3 := (blk_cell hh 3).trans rfl
  have p4 := (blk_cell hh 4).trans rfl
  have p5 := (blk_cell hh 5).trans rfl
  have p6 := (blk_cell hh 6).trans rfl
  have p7 := (blk_cell hh 7).trans rfl
  have p8 := (blk_cell hh 8).trans rfl
  have q0 := (blk_cell hhv 0).trans rfl
  have q1 := (blk_cell hhv 1).trans rfl
  have q2 := (blk_cell hhv 2).trans rfl
  have q3 := (blk_cell hhv 3).trans rfl
  have q4 := (blk_cell hhv 4).trans rfl
  have q5 := (blk_cell hhv 5).trans rfl
  clear hh hhv hR hB hs
  go_wp2_with fail
  obtain ⟨A9, c9, rfl, hle9, hC9⟩ := Kd.R_reads HO3.out.1
  generalize hN : ([34, 0, 0, 0] ++ adB src ++ adB dst ++ adB ksrc ++ adB kgrp).length = N9 at *
  have HN9 := Aside0.mk hN
  clear hN
  refine (put_any A9 N9 c9 ([34, 0, 0, 0] ++ adB src ++ adB dst ++ adB ksrc ++ adB kgrp) 2 _ hC9 HBY.out (by simp [adB, nuB])).mono ?_
  rintro e w9 ⟨v9, rfl, hR9, hb9⟩
  have hB9 := below_then HQ.out.2.2 HQ.out.2.2.size HO3.out.2.1
  clear hC9 hle9
  go_wp2
  go_ret2
  exact ⟨_, rfl, Kd.R_lower hR9 hB9.size, below_then hB9 hB9.size hb9⟩
end Go.Proofs.YtbgbplbkombfjaaDoor
namespace Go.Proofs.YtbgbplbkombfjaaDoor
open Go.RowKit Go.Proofs.YtbgbplbkombfjaaDoorW.PrintWords SumPlain
set_option linter.unusedVariables false
set_option linter.unusedSimpArgs false
attribute [local go_sem] setCell_drewN alloc_drewN
set_option maxHeartbeats 4000000 in
set_option maxRecDepth 100000 in
theorem wbytes3 (E : Nat → Addr) (src dst ksrc kgrp rank cost : Int) (only : Bool) (l : List Int) (A : Option Addr) (n c : Nat) (w : World) (hE : Errs wireErrs E w) (hw : (⟨3, src, dst, ksrc, kgrp, rank, cost, only, l⟩ : Msg).wf) (hC : Kd.C (Kd.int .u32) w A n l) (hv : validL ⟨3, src, dst, ksrc, kgrp, rank, cost, only, l⟩ = none) (hok : (⟨3, src, dst, ksrc, kgrp, rank, cost, only, l⟩ : Msg).ok) (hl4 : l.length ≤ 4) :
    Calls Tryd.prog 27 #[.agg #[.int .i64 3, .int .u32 src, .int .u32 dst, .int .u32 ksrc, .int .u32 kgrp, .int .i64 rank, .int .i64 cost, .bool only, .slice A n c]] w fun e w' => ∃ v, e = .returned (.tuple #[v, .nilIface]) ∧ (Kd.int .u8).R 5 w' w.heap.size (fun _ => True) v (msgL ⟨3, src, dst, ksrc, kgrp, rank, cost, only, l⟩) ∧ Below w.heap.size w w' := by
  have hu := Tryd.underlying86
  have hu2 := Tryd.underlying56
  have hu3 := Tryd.underlying53
  have hby := rawM_byt ⟨3, src, dst, ksrc, kgrp, rank, cost, only, l⟩ hw hok (by simp) (by simp) hl4
  have hnum : 0 ≤ rank + cost ∧ rank + cost ≤ 65535 := num_sum ⟨3, src, dst, ksrc, kgrp, rank, cost, only, l⟩ hok
  obtain ⟨hn0, hn1⟩ := hnum
  obtain ⟨⟨hr0, hr1⟩, ⟨hc0, hc1⟩, hrest⟩ := id hok
  clear hrest
  simp only at hr0 hr1 hc0 hc1
  rw [msgL]
  rw [rawM3] at hby ⊢
  have HBY := Aside0.mk hby
  clear hby hok
  obtain ⟨W, hW⟩ : ∃ W, W = w.alloc (.cells #[.int .i64 3, .int .u32 src, .int .u32 dst, .int .u32 ksrc, .int .u32 kgrp, .int .i64 rank, .int .i64 cost, .bool only, .slice A n c] 56) := ⟨_, rfl⟩
  have hb0 : Below w.heap.size w W := by rw [hW]; exact below_alloc (Below.refl _ _) _
  have hh : W.heap[w.heap.size]? = some (.cells #[.int .i64 3, .int .u32 src, .int .u32 dst, .int .u32 ksrc, .int .u32 kgrp, .int .i64 rank, .int .i64 cost, .bool only, .slice A n c] 56 (0, 0)) := by rw [hW]; exact heap_alloc_new w _
  have HS := Aside0.mk (And.intro hb0 hh)
  have HX := Aside0.mk hW
  have HW := Aside0.mk (And.intro hw (And.intro hE (And.intro hC (And.intro hv hl4))))
  clear hb0 hh hW hw hE hC hv hl4
  go_enter Tryd.func27, Tryd.ntmps27
  go_wp2_with fail
  have hW := HX.out
  rw [← hW]
  clear HX hW
  obtain ⟨hb0, hh⟩ := HS.out
  clear HS
  obtain ⟨b, hb⟩ : ∃ b, b = w.heap.size := ⟨_, rfl⟩
  rw [← hb] at hh ⊢
  clear hb
  refine (valid_any E ⟨3, src, dst, ksrc, kgrp, rank, cost, only, l⟩ A n c W (HW.out.2.1.below hb0) HW.out.1 (Kd.C_below HW.out.2.2.1 hb0)).mono ?_
  rintro e w2 ⟨rfl, hb2⟩
  rw [HW.out.2.2.2.1]
  simp only [errV]
  have hB2 := reach_to hb0 hb0.size hb2
  replace hh := blk_below hh hb2
  have hlt := blk_lt hh
  clear hb0 hb2
  have p0 := (blk_cell hh 0).trans rfl
  have p1 := (blk_cell hh 1).trans rfl
  have p2 := (blk_cell hh 2).trans rfl
  have p3 := (blk_cell hh 3).trans rfl
  have p4 := (blk_cell hh 4).trans rfl
  have p5 := (blk_cell hh 5).trans rfl
  have p6 := (blk_cell hh 6).trans rfl
  have p7 := (blk_cell hh 7).trans rfl
  have p8 := (blk_cell hh 8).trans rfl
  have hb4 := below_alloc (below_alloc (Below.refl w2.heap.size w2) (.cells #[.bool false, .bool true, .bool true, .bool false, .bool true, .bool false] 86)) (.cells #[.bool false, .bool true, .bool true, .bool false, .bool true, .bool false] 86)
  have hhv := new_at (w2.alloc (.cells #[.bool false, .bool true, .bool true, .bool false, .bool true, .bool false] 86)) (.cells #[.bool false, .bool true, .bool true, .bool false, .bool true, .bool false] 86) (w2.heap.size + 1) (by simp)
  have HQ := Aside0.mk (And.intro (blk_below hh hb4) (And.intro hhv (reach_to hB2 hB2.size hb4)))
  clear hb4 hhv hh hB2
  go_upto_region 5 with (go_at_call 48; refine (of_3 _).mono ?_; rintro e w3 ⟨rfl, rfl⟩)
  clear p0 p1 p2 p3 p4 p5 p6 p7 p8
  obtain ⟨hh, hhv, hB4⟩ := HQ.out
  clear HQ hlt
  generalize (w2.alloc (.cells #[.bool false, .bool true, .bool true, .bool false, .bool true, .bool false] 86)).alloc (.cells #[.bool false, .bool true, .bool true, .bool false, .bool true, .bool false] 86) = W4 at *
  obtain ⟨gh, hgh⟩ : ∃ gh, gh = w2.heap.size + 1 := ⟨_, rfl⟩
  rw [← hgh] at hhv ⊢
  clear hgh
  have p0 := (blk_cell hh 0).trans rfl
  have p1 := (blk_cell hh 1).trans rfl
  have p2 := (blk_cell hh 2).trans rfl
  have p3 := (blk_cell hh 3).trans rfl
  have p4 := (blk_cell hh 4).trans rfl
  have p5 := (blk_cell hh 5).trans rfl
  have p6 := (blk_cell hh 6).trans rfl
  have p7 := (blk_cell hh 7).trans rfl
  have p8 := (blk_cell hh 8).trans rfl
  have q0 := (blk_cell hhv 0).trans rfl
  have q1 := (blk_cell hhv 1).trans rfl
  have q2 := (blk_cell hhv 2).trans rfl
  have q3 := (blk_cell hhv 3).trans rfl
  have q4 := (blk_cell hhv 4).trans rfl
  have q5 := (blk_cell hhv 5).trans rfl
  have HQ := Aside0.mk (And.intro hh (And.intro hhv hB4))
  have hR0 := lit_R .u8 W4 5 [35, 0, 0, 0] W4.heap.size (by simp) (Nat.le_refl _)
  have HR0 := Aside0.mk (And.intro hR0 (below_alloc (Below.refl W4.heap.size W4) (.cells (nums .u8 [35, 0, 0, 0]).toArray 5)))
  have hlt := blk_lt hh
  have hlt2 := blk_lt hhv
  clear hh hhv hB4 hR0
  go_wp2_with fail
  refine (wput_any W4 W4.heap.size _ [35, 0, 0, 0] src _ HR0.out.1 HR0.out.2 (HR0.out.2.size) (by simp) HW.out.1.1).mono ?_
  rintro e u0 ⟨v0, rfl, hR, hB, hs⟩
  have HO0 := Aside0.mk (And.intro hR (And.intro hB hs))
  clear p0 p1 p2 p3 p4 p5 p6 p7 p8
  clear q0 q1 q2 q3 q4 q5
  have hh := blk_below HQ.out.1 hB
  have hhv := blk_below HQ.out.2.1 hB
  have p0 := (blk_cell hh 0).trans rfl
  have p1 := (blk_cell hh 1).trans rfl
  have p2 := (blk_cell hh 2).trans rfl
  have p3 := (blk_cell hh 3).trans rfl
  have p4 := (blk_cell hh 4).trans rfl
  have p5 := (blk_cell hh 5).trans rfl
  have p6 := (blk_cell hh 6).trans rfl
  have p7 := (blk_cell hh 7).trans rfl
  have p8 := (blk_cell hh 8).trans rfl
  have q0 := (blk_cell hhv 0).trans rfl
  have q1 := (blk_cell hhv 1).trans rfl
  have q2 := (blk_cell hhv 2).trans rfl
  have q3 := (blk_cell hhv 3).trans rfl
  have q4 := (blk_cell hhv 4).trans rfl
  have q5 := (blk_cell hhv 5).trans rfl
  clear hh hhv hR hB hs hlt hlt2
  go_wp2_with fail
  refine (wput_any W4 W4.heap.size _ ([35, 0, 0, 0] ++ adB src) ksrc _ HO0.out.1 HO0.out.2.1 HO0.out.2.2 (by simp [adB]) HW.out.1.2.2.1).mono ?_
  rintro e u1 ⟨v1, rfl, hR, hB, hs⟩
  have HO1 := Aside0.mk (And.intro hR (And.intro hB hs))
  clear p0 p1 p2 p3 p4 p5 p6 p7 p8
  clear q0 q1 q2 q3 q4 q5
  have hh := blk_below HQ.out.1 hB
  have hhv := blk_below HQ.out.2.1 hB
  have p0 := (blk_cell hh 0).trans rfl
  have p1 := (blk_cell hh 1).trans rfl
  have p2 := (blk_cell hh 2).trans rfl
  have p3 := (blk_cell hh 3).trans rfl
  have p4 := (blk_cell hh 4).trans rfl
  have p5 := (blk_cell hh 5).trans rfl
  have p6 := (blk_cell hh 6).trans rfl
  have p7 := (blk_cell hh 7).trans rfl
  have p8 := (blk_cell hh 8).trans rfl
  have q0 := (blk_cell hhv 0).trans rfl
  have q1 := (blk_cell hhv 1).trans rfl
  have q2 := (blk_cell hhv 2).trans rfl
  have q3 := (blk_cell hhv 3).trans rfl
  have q4 := (blk_cell hhv 4).trans rfl
  have q5 := (blk_cell hhv 5).trans rfl
  clear hh hhv hR hB hs
  go_wp2_with fail
  refine (wput_any W4 W4.heap.size _ ([35, 0, 0, 0] ++ adB src ++ adB ksrc) kgrp _ HO1.out.1 HO1.out.2.1 HO1.out.2.2 (by simp [adB]) HW.out.1.2.2.2.1).mono ?_
  rintro e u2 ⟨v2, rfl, hR, hB, hs⟩
  have HO2 := Aside0.mk (And.intro hR (And.intro hB hs))
  clear p0 p1 p2 p3 p4 p5 p6 p7 p8
  clear q0 q1 q2 q3 q4 q5
  have hh := blk_below HQ.out.1 hB
  have hhv := blk_below HQ.out.2.1 hB
  have p0 := (blk_cell hh 0).trans rfl
  have p1 := (blk_cell hh 1).trans rfl
  have p2 := (blk_cell hh 2).trans rfl
  have p3 := (blk_cell hh 3).trans rfl
  have p4 := (blk_cell hh 4).trans rfl
  have p5 := (blk_cell hh 5).trans rfl
  have p6 := (blk_cell hh 6).trans rfl
  have p7 := (blk_cell hh 7).trans rfl
  have p8 := (blk_cell hh 8).trans rfl
  have q0 := (blk_cell hhv 0).trans rfl
  have q1 := (blk_cell hhv 1).trans rfl
  have q2 := (blk_cell hhv 2).trans rfl
  have q3 := (blk_cell hhv 3).trans rfl
  have q4 := (blk_cell hhv 4).trans rfl
  have q5 := (blk_cell hhv 5).trans rfl
  clear hh hhv hR hB hs
  have CN := lit_C .u8 u2 5 (nuB (rank + cost)) (by simp [nuB])
  have HN := Aside0.mk (And.intro (Kd.R_alloc HO2.out.1 (.cells (nums .u8 (nuB (rank + cost))).toArray 5)) (And.intro CN (below_alloc' HO2.out.2.1 HO2.out.2.2 (.cells (nums .u8 (nuB (rank + cost))).toArray 5))))
  clear CN
  go_wp2_with (at_builtin; refine Kd.R_append_row (w0 := W4) (Value.int .u8) 0 W4.heap.size rfl (.tmp 58) (.tmp 64) 26 5 (.int .u8 0) 1 rfl Tryd.underlying26 Tryd.infoB rfl (by decide) v2 ([35, 0, 0, 0] ++ adB src ++ adB ksrc ++ adB kgrp) (nuB (rank + cost)) (some ⟨u2.heap.size, 0, none⟩) 2 2 (fun _ => True) (by rfl) (by rfl) (fun _ _ => trivial) HN.out.1 HN.out.2.1 HN.out.2.2.1 HN.out.2.2.2 (by simp [adB]) ?_)
  intro va ua hR0 hB hgr _
  have hR : (Kd.int .u8).R 5 ua W4.heap.size (fun _ => True) va ([35, 0, 0, 0] ++ adB src ++ adB ksrc ++ adB kgrp ++ nuB (rank + cost)) := by first | exact hR0 | simpa using hR0
  clear hR0
  have HOa := Aside0.mk (And.intro hR (And.intro hB (Nat.le_trans HN.out.2.2.2 hgr.size)))
  clear p0 p1 p2 p3 p4 p5 p6 p7 p8
  clear q0 q1 q2 q3 q4 q5
  have hh := blk_below HQ.out.1 hB
  have hhv := blk_below HQ.out.2.1 hB
  have p0 := (blk_cell hh 0).trans rfl
  have p1 := (blk_cell hh 1).trans rfl
  have p2 := (blk_cell hh 2).trans rfl
  have p3 := (blk_cell hh 3).trans rfl
  have p4 := (blk_cell hh 4).trans rfl
  have p5 := (blk_cell hh 5).trans rfl
  have p6 := (blk_cell hh 6).trans rfl
  have p7 := (blk_cell hh 7).trans rfl
  have p8 := (blk_cell hh 8).trans rfl
  have q0 := (blk_cell hhv 0).trans rfl
  have q1 := (blk_cell hhv 1).trans rfl
  have q2 := (blk_cell hhv 2).trans rfl
  have q3 := (blk_cell hhv 3).trans rfl
  have q4 := (blk_cell hhv 4).trans rfl
  have q5 := (blk_cell hhv 5).trans rfl
  clear hh hhv hR hB hgr HN
  go_wp2_with fail
  obtain ⟨A9, c9, rfl, hle9, hC9⟩ := Kd.R_reads HOa.out.1
  generalize hN : ([35, 0, 0, 0] ++ adB src ++ adB ksrc ++ adB kgrp ++ nuB (rank + cost)).length = N9 at *
  have HN9 := Aside0.mk hN
  clear hN
  refine (put_any A9 N9 c9 ([35, 0, 0, 0] ++ adB src ++ adB ksrc ++ adB kgrp ++ nuB (rank + cost)) 2 _ hC9 HBY.out (by simp [adB, nuB])).mono ?_
  rintro e w9 ⟨v9, rfl, hR9, hb9⟩
  have hB9 := below_then HQ.out.2.2 HQ.out.2.2.size HOa.out.2.1
  clear hC9 hle9
  go_wp2
  go_ret2
  exact ⟨_, rfl, Kd.R_lower hR9 hB9.size, below_then hB9 hB9.size hb9⟩
end Go.Proofs.YtbgbplbkombfjaaDoor
namespace Go.Proofs.YtbgbplbkombfjaaDoor
open Go.RowKit Go.Proofs.YtbgbplbkombfjaaDoorW.PrintWords SumPlain
set_option linter.unusedVariables false
set_option linter.unusedSimpArgs false
attribute [local go_sem] setCell_drewN alloc_drewN
set_option maxHeartbeats 4000000 in
set_option maxRecDepth 100000 in
theorem wbytes4 (E : Nat → Addr) (src dst ksrc kgrp rank cost : Int) (only : Bool) (l : List Int) (A : Option Addr) (n c : Nat) (w : World) (hE : Errs wireErrs E w) (hw : (⟨4, src, dst, ksrc, kgrp, rank, cost, only, l⟩ : Msg).wf) (hC : Kd.C (Kd.int .u32) w A n l) (hv : validL ⟨4, src, dst, ksrc, kgrp, rank, cost, only, l⟩ = none) (hok : (⟨4, src, dst, ksrc, kgrp, rank, cost, only, l⟩ : Msg).ok) (hl4 : l.length ≤ 4) :
    Calls Tryd.prog 27 #[.agg #[.int .i64 4, .int .u32 src, .int .u32 dst, .int .u32 ksrc, .int .u32 kgrp, .int .i64 rank, .int .i64 cost, .bool only, .slice A n c]] w fun e w' => ∃ v, e = .returned (.tuple #[v, .nilIface]) ∧ (Kd.int .u8).R 5 w' w.heap.size (fun _ => True) v (msgL ⟨4, src, dst, ksrc, kgrp, rank, cost, only, l⟩) ∧ Below w.heap.size w w' := by
  have hu := Tryd.underlying86
  have hu2 := Tryd.underlying56
  have hu3 := Tryd.underlying53
  have hby := rawM_byt ⟨4, src, dst, ksrc, kgrp, rank, cost, only, l⟩ hw hok (by simp) (by simp) hl4
  have hnum : 0 ≤ rank + cost ∧ rank + cost ≤ 65535 := num_sum ⟨4, src, dst, ksrc, kgrp, rank, cost, only, l⟩ hok
  obtain ⟨hn0, hn1⟩ := hnum
  obtain ⟨⟨hr0, hr1⟩, ⟨hc0, hc1⟩, hrest⟩ := id hok
  clear hrest
  simp only at hr0 hr1 hc0 hc1
  rw [msgL]
  rw [rawM4] at hby ⊢
  have HBY := Aside0.mk hby
  clear hby hok
  obtain ⟨W, hW⟩ : ∃ W, W = w.alloc (.cells #[.int .i64 4, .int .u32 src, .int .u32 dst, .int .u32 ksrc, .int .u32 kgrp, .int .i64 rank, .int .i64 cost, .bool only, .slice A n c] 56) := ⟨_, rfl⟩
  have hb0 : Below w.heap.size w W := by rw [hW]; exact below_alloc (Below.refl _ _) _
  have hh : W.heap[w.heap.size]? = some (.cells #[.int .i64 4, .int .u32 src, .int .u32 dst, .int .u32 ksrc, .int .u32 kgrp, .int .i64 rank, .int .i64 cost, .bool only, .slice A n c] 56 (0, 0)) := by rw [hW]; exact heap_alloc_new w _
  have HS := Aside0.mk (And.intro hb0 hh)
  have HX := Aside0.mk hW
  have HW := Aside0.mk (And.intro hw (And.intro hE (And.intro hC (And.intro hv hl4))))
  clear hb0 hh hW hw hE hC hv hl4
  go_enter Tryd.func27, Tryd.ntmps27
  go_wp2_with fail
  have hW := HX.out
  rw [← hW]
  clear HX hW
  obtain ⟨hb0, hh⟩ := HS.out
  clear HS
  obtain ⟨b, hb⟩ : ∃ b, b = w.heap.size := ⟨_, rfl⟩
  rw [← hb] at hh ⊢
  clear hb
  refine (valid_any E ⟨4, src, dst, ksrc, kgrp, rank, cost, only, l⟩ A n c W (HW.out.2.1.below hb0) HW.out.1 (Kd.C_below HW.out.2.2.1 hb0)).mono ?_
  rintro e w2 ⟨rfl, hb2⟩
  rw [HW.out.2.2.2.1]
  simp only [errV]
  have hB2 := reach_to hb0 hb0.size hb2
  replace hh := blk_below hh hb2
  have hlt := blk_lt hh
  clear hb0 hb2
  have p0 := (blk_cell hh 0).trans rfl
  have p1 := (blk_cell hh 1).trans rfl
  have p2 := (blk_cell hh 2).trans rfl
  have p3 := (blk_cell hh 3).trans rfl
  have p4 := (blk_cell hh 4).trans rfl
  have p5 := (blk_cell hh 5).trans rfl
  have p6 := (blk_cell hh 6).trans rfl
  have p7 := (blk_cell hh 7).trans rfl
  have p8 := (blk_cell hh 8).trans rfl
  have hb4 := below_alloc (below_alloc (Below.refl w2.heap.size w2) (.cells #[.bool false, .bool false, .bool true, .bool false, .bool false, .bool true] 86)) (.cells #[.bool false, .bool false, .bool true, .bool false, .bool false, .bool true] 86)
  have hhv := new_at (w2.alloc (.cells #[.bool false, .bool false, .bool true, .bool false, .bool false, .bool true] 86)) (.cells #[.bool false, .bool false, .bool true, .bool false, .bool false, .bool true] 86) (w2.heap.size + 1) (by simp)
  have HQ := Aside0.mk (And.intro (blk_below hh hb4) (And.intro hhv (reach_to hB2 hB2.size hb4)))
  clear hb4 hhv hh hB2
  go_upto_region 5 with (go_at_call 48; refine (of_4 _).mono ?_; rintro e w3 ⟨rfl, rfl⟩)
  clear p0 p1 p2 p3 p4 p5 p6 p7 p8
  obtain ⟨hh, hhv, hB4⟩ := HQ.out
  clear HQ hlt
  generalize (w2.alloc (.cells #[.bool false, .bool false, .bool true, .bool false, .bool false, .bool true] 86)).alloc (.cells #[.bool false, .bool false, .bool true, .bool false, .bool false, .bool true] 86) = W4 at *
  obtain ⟨gh, hgh⟩ : ∃ gh, gh = w2.heap.size + 1 := ⟨_, rfl⟩
  rw [← hgh] at hhv ⊢
  clear hgh
  have p0 := (blk_cell hh 0).trans rfl
  have p1 := (blk_cell hh 1).trans rfl
  have p2 := (blk_cell hh 2).trans rfl
  have p3 := (blk_cell hh 3).trans rfl
  have p4 := (blk_cell hh 4).trans rfl
  have p5 := (blk_cell hh 5).trans rfl
  have p6 := (blk_cell hh 6).trans rfl
  have p7 := (blk_cell hh 7).trans rfl
  have p8 := (blk_cell hh 8).trans rfl
  have q0 := (blk_cell hhv 0).trans rfl
  have q1 := (blk_cell hhv 1).trans rfl
  have q2 := (blk_cell hhv 2).trans rfl
  have q3 := (blk_cell hhv 3).trans rfl
  have q4 := (blk_cell hhv 4).trans rfl
  have q5 := (blk_cell hhv 5).trans rfl
  have HQ := Aside0.mk (And.intro hh (And.intro hhv hB4))
  have hR0 := lit_R .u8 W4 5 [36, 0, 0, 0] W4.heap.size (by simp) (Nat.le_refl _)
  have HR0 := Aside0.mk (And.intro hR0 (below_alloc (Below.refl W4.heap.size W4) (.cells (nums .u8 [36, 0, 0, 0]).toArray 5)))
  have hlt := blk_lt hh
  have hlt2 := blk_lt hhv
  clear hh hhv hB4 hR0
  go_wp2_with fail
  refine (wput_any W4 W4.heap.size _ [36, 0, 0, 0] src _ HR0.out.1 HR0.out.2 (HR0.out.2.size) (by simp) HW.out.1.1).mono ?_
  rintro e u0 ⟨v0, rfl, hR, hB, hs⟩
  have HO0 := Aside0.mk (And.intro hR (And.intro hB hs))
  clear p0 p1 p2 p3 p4 p5 p6 p7 p8
  clear q0 q1 q2 q3 q4 q5
  have hh := blk_below HQ.out.1 hB
  have hhv := blk_below HQ.out.2.1 hB
  have p0 := (blk_cell hh 0).trans rfl
  have p1 := (blk_cell hh 1).trans rfl
  have p2 := (blk_cell hh 2).trans rfl
  have p3 := (blk_cell hh 3).trans rfl
  have p4 := (blk_cell hh 4).trans rfl
  have p5 := (blk_cell hh 5).trans rfl
  have p6 := (blk_cell hh 6).trans rfl
  have p7 := (blk_cell hh 7).trans rfl
  have p8 := (blk_cell hh 8).trans rfl
  have q0 := (blk_cell hhv 0).trans rfl
  have q1 := (blk_cell hhv 1).trans rfl
  have q2 := (blk_cell hhv 2).trans rfl
  have q3 := (blk_cell hhv 3).trans rfl
  have q4 := (blk_cell hhv 4).trans rfl
  have q5 := (blk_cell hhv 5).trans rfl
  clear hh hhv hR hB hs hlt hlt2
  go_wp2_with fail
  refine (wput_any W4 W4.heap.size _ ([36, 0, 0, 0] ++ adB src) kgrp _ HO0.out.1 HO0.out.2.1 HO0.out.2.2 (by simp [adB]) HW.out.1.2.2.2.1).mono ?_
  rintro e u1 ⟨v1, rfl, hR, hB, hs⟩
  have HO1 := Aside0.mk (And.intro hR (And.intro hB hs))
  clear p0 p1 p2 p3 p4 p5 p6 p7 p8
  clear q0 q1 q2 q3 q4 q5
  have hh := blk_below HQ.out.1 hB
  have hhv := blk_below HQ.out.2.1 hB
  have p0 := (blk_cell hh 0).trans rfl
  have p1 := (blk_cell hh 1).trans rfl
  have p2 := (blk_cell hh 2).trans rfl
  have p3 := (blk_cell hh 3).trans rfl
  have p4 := (blk_cell hh 4).trans rfl
  have p5 := (blk_cell hh 5).trans rfl
  have p6 := (blk_cell hh 6).trans rfl
  have p7 := (blk_cell hh 7).trans rfl
  have p8 := (blk_cell hh 8).trans rfl
  have q0 := (blk_cell hhv 0).trans rfl
  have q1 := (blk_cell hhv 1).trans rfl
  have q2 := (blk_cell hhv 2).trans rfl
  have q3 := (blk_cell hhv 3).trans rfl
  have q4 := (blk_cell hhv 4).trans rfl
  have q5 := (blk_cell hhv 5).trans rfl
  clear hh hhv hR hB hs
  go_upto_region 16 with fail
  cases only
  · skip
    have hn4 : n ≤ 4 := by rw [← HW.out.2.2.1.1]; exact HW.out.2.2.2.2
    have CN := lit_C .u8 u1 5 [0, (n : Int)] (by simp)
    have HN := Aside0.mk (And.intro (Kd.R_alloc HO1.out.1 (.cells (nums .u8 [0, (n : Int)]).toArray 5)) (And.intro CN (below_alloc' HO1.out.2.1 HO1.out.2.2 (.cells (nums .u8 [0, (n : Int)]).toArray 5))))
    clear CN
    have hlt := blk_lt (blk_below HQ.out.1 HO1.out.2.1)
    have hlt2 := blk_lt (blk_below HQ.out.2.1 HO1.out.2.1)
    go_wp2_with (at_builtin; refine Kd.R_append_row (w0 := W4) (Value.int .u8) 0 W4.heap.size rfl (.tmp 70) (.tmp 76) 26 5 (.int .u8 0) 1 rfl Tryd.underlying26 Tryd.infoB rfl (by decide) v1 ([36, 0, 0, 0] ++ adB src ++ adB kgrp) [0, (n : Int)] (some ⟨u1.heap.size, 0, none⟩) 2 2 (fun _ => True) (by rfl) (by rfl) (fun _ _ => trivial) HN.out.1 HN.out.2.1 HN.out.2.2.1 HN.out.2.2.2 (by simp [adB]) ?_)
    intro va ua hR0 hB hgr _
    have hR : (Kd.int .u8).R 5 ua W4.heap.size (fun _ => True) va ([36, 0, 0, 0] ++ adB src ++ adB kgrp ++ [0, (n : Int)]) := by first | exact hR0 | simpa using hR0
    have HOa := Aside0.mk (And.intro hR (And.intro hB (Nat.le_trans HN.out.2.2.2 hgr.size)))
    clear p0 p1 p2 p3 p4 p5 p6 p7 p8
    clear q0 q1 q2 q3 q4 q5
    clear hlt hlt2 hR0 hR hgr HN
    have hh := blk_below HQ.out.1 hB
    have hhv := blk_below HQ.out.2.1 hB
    have p0 := (blk_cell hh 0).trans rfl
    have p1 := (blk_cell hh 1).trans rfl
    have p2 := (blk_cell hh 2).trans rfl
    have p3 := (blk_cell hh 3).trans rfl
    have p4 := (blk_cell hh 4).trans rfl
    have p5 := (blk_cell hh 5).trans rfl
    have p6 := (blk_cell hh 6).trans rfl
    have p7 := (blk_cell hh 7).trans rfl
    have p8 := (blk_cell hh 8).trans rfl
    have q0 := (blk_cell hhv 0).trans rfl
    have q1 := (blk_cell hhv 1).trans rfl
    have q2 := (blk_cell hhv 2).trans rfl
    have q3 := (blk_cell hhv 3).trans rfl
    have q4 := (blk_cell hhv 4).trans rfl
    have q5 := (blk_cell hhv 5).trans rfl
    clear hh hhv hB
    go_wp2_with fail
    clear p0 p1 p2 p3 p4 p5 p6 p7 p8
    clear q0 q1 q2 q3 q4 q5
    go_loopg [6, 81] n (fun k v6 v81 wr => ∃ j : Nat, j + k = n ∧ v81 = .int .i64 j ∧ Aside0 ((Kd.int .u8).R 5 wr W4.heap.size (fun _ => True) v6 ([36, 0, 0, 0] ++ adB src ++ adB kgrp ++ [0, (n : Int)] ++ adsB (l.take j)) ∧ Below W4.heap.size W4 wr ∧ W4.heap.size ≤ wr.heap.size))
    case atStart => exact ⟨0, by omega, rfl, ⟨by simpa [adsB] using HOa.out.1, HOa.out.2⟩⟩
    case round =>
      obtain ⟨j, hj, rfl, HR⟩ := hrel
      by_cases hlt : j < n
      · have hCr := Kd.C_below HW.out.2.2.1 (below_then HQ.out.2.2 HQ.out.2.2.size HR.out.2.1)
        obtain ⟨ad, x, hAe, hc, HXX⟩ := at_nat hCr j hlt
        subst hAe
        have hxw : isAd x := by
          have hjl : j < l.length := by rw [HW.out.2.2.1.1]; exact hlt
          rw [HXX.out, List.getD_eq_getElem?_getD, List.getElem?_eq_getElem hjl]
          exact HW.out.1.2.2.2.2 _ (List.getElem_mem hjl)
        have HS' : Aside0 (adsB (l.take (j + 1)) = adsB (l.take j) ++ adB x) := ⟨by
          have hjl : j < l.length := by rw [HW.out.2.2.1.1]; exact hlt
          rw [SumPlain.take_snoc l j hjl, ← HXX.out]; simp [adsB]⟩
        have HXW := Aside0.mk hxw
        clear hCr HXX hxw
        have hxl : ([36, 0, 0, 0] ++ adB src ++ adB kgrp ++ [0, (n : Int)] ++ adsB (l.take j)).length ≤ 900000 := by have h := adsB_len (l.take j); have h2 : (l.take j).length ≤ 4 := (by rw [List.length_take]; omega); simp [adB]; omega
        have HXL := Aside0.mk hxl
        clear hxl
        go_wp2_with fail
        refine (wput_any W4 W4.heap.size _ ([36, 0, 0, 0] ++ adB src ++ adB kgrp ++ [0, (n : Int)] ++ adsB (l.take j)) x _ HR.out.1 HR.out.2.1 HR.out.2.2 HXL.out HXW.out).mono ?_
        rintro e u9 ⟨v9, rfl, hR, hB, hs⟩
        rw [List.append_assoc, ← HS'.out] at hR
        have HZ := Aside0.mk (And.intro hR (And.intro hB hs))
        clear hR hB hs
        go_wp2
        go_roundg (gk - 1)
        case measure => omega
        case rel => exact ⟨j + 1, by omega, by go_num, HZ⟩
      · obtain rfl : n = j := by omega
        go_wp2_with fail
        have hlj : l.take n = l := List.take_of_length_le (by rw [HW.out.2.2.1.1]; exact Nat.le_refl _)
        have hR := HR.out.1
        rw [hlj] at hR
        have hxx : [36, 0, 0, 0] ++ adB src ++ adB kgrp ++ [0, (n : Int)] ++ adsB l = [36, 0, 0, 0] ++ adB src ++ adB kgrp ++ [if false then 1 else 0, (l.length : Int)] ++ adsB l := by rw [HW.out.2.2.1.1]; rfl
        rw [hxx] at hR
        obtain ⟨A9, c9, rfl, hle9, hC9⟩ := Kd.R_reads hR
        have hll : ([36, 0, 0, 0] ++ adB src ++ adB kgrp ++ [if false then 1 else 0, (l.length : Int)] ++ adsB l).length ≤ 1000000 := by have h := adsB_len l; have h2 := HW.out.2.2.2.2; simp [adB]; omega
        generalize hN : ([36, 0, 0, 0] ++ adB src ++ adB kgrp ++ [if false then 1 else 0, (l.length : Int)] ++ adsB l).length = N9 at *
        refine (put_any A9 N9 c9 ([36, 0, 0, 0] ++ adB src ++ adB kgrp ++ [if false then 1 else 0, (l.length : Int)] ++ adsB l) 2 _ hC9 HBY.out (by rw [hN]; exact hll)).mono ?_
        rintro e w9 ⟨v9, rfl, hR9, hb9⟩
        have hB9 := below_then HQ.out.2.2 HQ.out.2.2.size HR.out.2.1
        clear hC9 hle9 hN hxx hR hlj hll
        go_wp2
        go_ret2
        exact ⟨_, rfl, Kd.R_lower hR9 hB9.size, below_then hB9 hB9.size hb9⟩
  · skip
    have hn4 : n ≤ 4 := by rw [← HW.out.2.2.1.1]; exact HW.out.2.2.2.2
    have CN := lit_C .u8 u1 5 [1, (n : Int)] (by simp)
    have HN := Aside0.mk (And.intro (Kd.R_alloc HO1.out.1 (.cells (nums .u8 [1, (n : Int)]).toArray 5)) (And.intro CN (below_alloc' HO1.out.2.1 HO1.out.2.2 (.cells (nums .u8 [1, (n : Int)]).toArray 5))))
    clear CN
    have hlt := blk_lt (blk_below HQ.out.1 HO1.out.2.1)
    have hlt2 := blk_lt (blk_below HQ.out.2.1 HO1.out.2.1)
    go_wp2_with (at_builtin; refine Kd.R_append_row (w0 := W4) (Value.int .u8) 0 W4.heap.size rfl (.tmp 70) (.tmp 76) 26 5 (.int .u8 0) 1 rfl Tryd.underlying26 Tryd.infoB rfl (by decide) v1 ([36, 0, 0, 0] ++ adB src ++ adB kgrp) [1, (n : Int)] (some ⟨u1.heap.size, 0, none⟩) 2 2 (fun _ => True) (by rfl) (by rfl) (fun _ _ => trivial) HN.out.1 HN.out.2.1 HN.out.2.2.1 HN.out.2.2.2 (by simp [adB]) ?_)
    intro va ua hR0 hB hgr _
    have hR : (Kd.int .u8).R 5 ua W4.heap.size (fun _ => True) va ([36, 0, 0, 0] ++ adB src ++ adB kgrp ++ [1, (n : Int)]) := by first | exact hR0 | simpa using hR0
    have HOa := Aside0.mk (And.intro hR (And.intro hB (Nat.le_trans HN.out.2.2.2 hgr.size)))
    clear p0 p1 p2 p3 p4 p5 p6 p7 p8
    clear q0 q1 q2 q3 q4 q5
    clear hlt hlt2 hR0 hR hgr HN
    have hh := blk_below HQ.out.1 hB
    have hhv := blk_below HQ.out.2.1 hB
    have p0 := (blk_cell hh 0).trans rfl
    have p1 := (blk_cell hh 1).trans rfl
    have p2 := (blk_cell hh 2).trans rfl
    have p3 := (blk_cell hh 3).trans rfl
    have p4 := (blk_cell hh 4).trans rfl
    have p5 := (blk_cell hh 5).trans rfl
    have p6 := (blk_cell hh 6).trans rfl
    have p7 := (blk_cell hh 7).trans rfl
    have p8 := (blk_cell hh 8).trans rfl
    have q0 := (blk_cell hhv 0).trans rfl
    have q1 := (blk_cell hhv 1).trans rfl
    have q2 := (blk_cell hhv 2).trans rfl
    have q3 := (blk_cell hhv 3).trans rfl
    have q4 := (blk_cell hhv 4).trans rfl
    have q5 := (blk_cell hhv 5).trans rfl
    clear hh hhv hB
    go_wp2_with fail
    clear p0 p1 p2 p3 p4 p5 p6 p7 p8
    clear q0 q1 q2 q3 q4 q5
    go_loopg [6, 81] n (fun k v6 v81 wr => ∃ j : Nat, j + k = n ∧ v81 = .int .i64 j ∧ Aside0 ((Kd.int .u8).R 5 wr W4.heap.size (fun _ => True) v6 ([36, 0, 0, 0] ++ adB src ++ adB kgrp ++ [1, (n : Int)] ++ adsB (l.take j)) ∧ Below W4.heap.size W4 wr ∧ W4.heap.size ≤ wr.heap.size))
    case atStart => exact ⟨0, by omega, rfl, ⟨by simpa [adsB] using HOa.out.1, HOa.out.2⟩⟩
    case round =>
      obtain ⟨j, hj, rfl, HR⟩ := hrel
      by_cases hlt : j < n
      · have hCr := Kd.C_below HW.out.2.2.1 (below_then HQ.out.2.2 HQ.out.2.2.size HR.out.2.1)
        obtain ⟨ad, x, hAe, hc, HXX⟩ := at_nat hCr j hlt
        subst hAe
        have hxw : isAd x := by
          have hjl : j < l.length := by rw [HW.out.2.2.1.1]; exact hlt
          rw [HXX.out, List.getD_eq_getElem?_getD, List.getElem?_eq_getElem hjl]
          exact HW.out.1.2.2.2.2 _ (List.getElem_mem hjl)
        have HS' : Aside0 (adsB (l.take (j + 1)) = adsB (l.take j) ++ adB x) := ⟨by
          have hjl : j < l.length := by rw [HW.out.2.2.1.1]; exact hlt
          rw [SumPlain.take_snoc l j hjl, ← HXX.out]; simp [adsB]⟩
        have HXW := Aside0.mk hxw
        clear hCr HXX hxw
        have hxl : ([36, 0, 0, 0] ++ adB src ++ adB kgrp ++ [1, (n : Int)] ++ adsB (l.take j)).length ≤ 900000 := by have h := adsB_len (l.take j); have h2 : (l.take j).length ≤ 4 := (by rw [List.length_take]; omega); simp [adB]; omega
        have HXL := Aside0.mk hxl
        clear hxl
        go_wp2_with fail
        refine (wput_any W4 W4.heap.size _ ([36, 0, 0, 0] ++ adB src ++ adB kgrp ++ [1, (n : Int)] ++ adsB (l.take j)) x _ HR.out.1 HR.out.2.1 HR.out.2.2 HXL.out HXW.out).mono ?_
        rintro e u9 ⟨v9, rfl, hR, hB, hs⟩
        rw [List.append_assoc, ← HS'.out] at hR
        have HZ := Aside0.mk (And.intro hR (And.intro hB hs))
        clear hR hB hs
        go_wp2
        go_roundg (gk - 1)
        case measure => omega
        case rel => exact ⟨j + 1, by omega, by go_num, HZ⟩
      · obtain rfl : n = j := by omega
        go_wp2_with fail
        have hlj : l.take n = l := List.take_of_length_le (by rw [HW.out.2.2.1.1]; exact Nat.le_refl _)
        have hR := HR.out.1
        rw [hlj] at hR
        have hxx : [36, 0, 0, 0] ++ adB src ++ adB kgrp ++ [1, (n : Int)] ++ adsB l = [36, 0, 0, 0] ++ adB src ++ adB kgrp ++ [if true then 1 else 0, (l.length : Int)] ++ adsB l := by rw [HW.out.2.2.1.1]; rfl
        rw [hxx] at hR
        obtain ⟨A9, c9, rfl, hle9, hC9⟩ := Kd.R_reads hR
        have hll : ([36, 0, 0, 0] ++ adB src ++ adB kgrp ++ [if true then 1 else 0, (l.length : Int)] ++ adsB l).length ≤ 1000000 := by have h := adsB_len l; have h2 := HW.out.2.2.2.2; simp [adB]; omega
        generalize hN : ([36, 0, 0, 0] ++ adB src ++ adB kgrp ++ [if true then 1 else 0, (l.length : Int)] ++ adsB l).length = N9 at *
        refine (put_any A9 N9 c9 ([36, 0, 0, 0] ++ adB src ++ adB kgrp ++ [if true then 1 else 0, (l.length : Int)] ++ adsB l) 2 _ hC9 HBY.out (by rw [hN]; exact hll)).mono ?_
        rintro e w9 ⟨v9, rfl, hR9, hb9⟩
        have hB9 := below_then HQ.out.2.2 HQ.out.2.2.size HR.out.2.1
        clear hC9 hle9 hN hxx hR hlj hll
        go_wp2
        go_ret2
        exact ⟨_, rfl, Kd.R_lower hR9 hB9.size, below_then hB9 hB9.size hb9⟩
end Go.Proofs.YtbgbplbkombfjaaDoor
namespace Go.Proofs.YtbgbplbkombfjaaDoor
open Go.RowKit Go.Proofs.YtbgbplbkombfjaaDoorW.PrintWords SumPlain
set_option linter.unusedVariables false
set_option linter.unusedSimpArgs false
attribute [local go_sem] setCell_drewN alloc_drewN
set_option maxHeartbeats 4000000 in
set_option maxRecDepth 100000 in
theorem wbytes5 (E : Nat → Addr) (src dst ksrc kgrp rank cost : Int) (only : Bool) (l : List Int) (A : Option Addr) (n c : Nat) (w : World) (hE : Errs wireErrs E w) (hw : (⟨5, src, dst, ksrc, kgrp, rank, cost, only, l⟩ : Msg).wf) (hC : Kd.C (Kd.int .u32) w A n l) (hv : validL ⟨5, src, dst, ksrc, kgrp, rank, cost, only, l⟩ = none) (hok : (⟨5, src, dst, ksrc, kgrp, rank, cost, only, l⟩ : Msg).ok) (hl4 : l.length ≤ 4) :
    Calls Tryd.prog 27 #[.agg #[.int .i64 5, .int .u32 src, .int .u32 dst, .int .u32 ksrc, .int .u32 kgrp, .int .i64 rank, .int .i64 cost, .bool only, .slice A n c]] w fun e w' => ∃ v, e = .returned (.tuple #[v, .nilIface]) ∧ (Kd.int .u8).R 5 w' w.heap.size (fun _ => True) v (msgL ⟨5, src, dst, ksrc, kgrp, rank, cost, only, l⟩) ∧ Below w.heap.size w w' := by
  have hu := Tryd.underlying86
  have hu2 := Tryd.underlying56
  have hu3 := Tryd.underlying53
  have hby := rawM_byt ⟨5, src, dst, ksrc, kgrp, rank, cost, only, l⟩ hw hok (by simp) (by simp) hl4
  have hnum : 0 ≤ rank + cost ∧ rank + cost ≤ 65535 := num_sum ⟨5, src, dst, ksrc, kgrp, rank, cost, only, l⟩ hok
  obtain ⟨hn0, hn1⟩ := hnum
  obtain ⟨⟨hr0, hr1⟩, ⟨hc0, hc1⟩, hrest⟩ := id hok
  clear hrest
  simp only at hr0 hr1 hc0 hc1
  rw [msgL]
  rw [rawM5] at hby ⊢
  have HBY := Aside0.mk hby
  clear hby hok
  obtain ⟨W, hW⟩ : ∃ W, W = w.alloc (.cells #[.int .i64 5, .int .u32 src, .int .u32 dst, .int .u32 ksrc, .int .u32 kgrp, .int .i64 rank, .int .i64 cost, .bool only, .slice A n c] 56) := ⟨_, rfl⟩
  have hb0 : Below w.heap.size w W := by rw [hW]; exact below_alloc (Below.refl _ _) _
  have hh : W.heap[w.heap.size]? = some (.cells #[.int .i64 5, .int .u32 src, .int .u32 dst, .int .u32 ksrc, .int .u32 kgrp, .int .i64 rank, .int .i64 cost, .bool only, .slice A n c] 56 (0, 0)) := by rw [hW]; exact heap_alloc_new w _
  have HS := Aside0.mk (And.intro hb0 hh)
  have HX := Aside0.mk hW
  have HW := Aside0.mk (And.intro hw (And.intro hE (And.intro hC (And.intro hv hl4))))
  clear hb0 hh hW hw hE hC hv hl4
  go_enter Tryd.func27, Tryd.ntmps27
  go_wp2_with fail
  have hW := HX.out
  rw [← hW]
  clear HX hW
  obtain ⟨hb0, hh⟩ := HS.out
  clear HS
  obtain ⟨b, hb⟩ : ∃ b, b = w.heap.size := ⟨_, rfl⟩
  rw [← hb] at hh ⊢
  clear hb
  refine (valid_any E ⟨5, src, dst, ksrc, kgrp, rank, cost, only, l⟩ A n c W (HW.out.2.1.below hb0) HW.out.1 (Kd.C_below HW.out.2.2.1 hb0)).mono ?_
  rintro e w2 ⟨rfl, hb2⟩
  rw [HW.out.2.2.2.1]
  simp only [errV]
  have hB2 := reach_to hb0 hb0.size hb2
  replace hh := blk_below hh hb2
  have hlt := blk_lt hh
  clear hb0 hb2
  have p0 := (blk_cell hh 0).trans rfl
  have p1 := (blk_cell hh 1).trans rfl
  have p2 := (blk_cell hh 2).trans rfl
  have p3 := (blk_cell hh 3).trans rfl
  have p4 := (blk_cell hh 4).trans rfl
  have p5 := (blk_cell hh 5).trans rfl
  have p6 := (blk_cell hh 6).trans rfl
  have p7 := (blk_cell hh 7).trans rfl
  have p8 := (blk_cell hh 8).trans rfl
  have hb4 := below_alloc (below_alloc (Below.refl w2.heap.size w2) (.cells #[.bool false, .bool false, .bool true, .bool false, .bool false, .bool false] 86)) (.cells #[.bool false, .bool false, .bool true, .bool false, .bool false, .bool false] 86)
  have hhv := new_at (w2.alloc (.cells #[.bool false, .bool false, .bool true, .bool false, .bool false, .bool false] 86)) (.cells #[.bool false, .bool false, .bool true, .bool false, .bool false, .bool false] 86) (w2.heap.size + 1) (by simp)
  have HQ := Aside0.mk (And.intro (blk_below hh hb4) (And.intro hhv (reach_to hB2 hB2.size hb4)))
  clear hb4 hhv hh hB2
  go_upto_region 5 with (go_at_call 48; refine (of_5 _).mono ?_; rintro e w3 ⟨rfl, rfl⟩)
  clear p0 p1 p2 p3 p4 p5 p6 p7 p8
  obtain ⟨hh, hhv, hB4⟩ := HQ.out
  clear HQ hlt
  generalize (w2.alloc (.cells #[.bool false, .bool false, .bool true, .bool false, .bool false, .bool false] 86)).alloc (.cells #[.bool false, .bool false, .bool true, .bool false, .bool false, .bool false] 86) = W4 at *
  obtain ⟨gh, hgh⟩ : ∃ gh, gh = w2.heap.size + 1 := ⟨_, rfl⟩
  rw [← hgh] at hhv ⊢
  clear hgh
  have p0 := (blk_cell hh 0).trans rfl
  have p1 := (blk_cell hh 1).trans rfl
  have p2 := (blk_cell hh 2).trans rfl
  have p3 := (blk_cell hh 3).trans rfl
  have p4 := (blk_cell hh 4).trans rfl
  have p5 := (blk_cell hh 5).trans rfl
  have p6 := (blk_cell hh 6).trans rfl
  have p7 := (blk_cell hh 7).trans rfl
  have p8 := (blk_cell hh 8).trans rfl
  have q0 := (blk_cell hhv 0).trans rfl
  have q1 := (blk_cell hhv 1).trans rfl
  have q2 := (blk_cell hhv 2).trans rfl
  have q3 := (blk_cell hhv 3).trans rfl
  have q4 := (blk_cell hhv 4).trans rfl
  have q5 := (blk_cell hhv 5).trans rfl
  have HQ := Aside0.mk (And.intro hh (And.intro hhv hB4))
  have hR0 := lit_R .u8 W4 5 [37, 0, 0, 0] W4.heap.size (by simp) (Nat.le_refl _)
  have HR0 := Aside0.mk (And.intro hR0 (below_alloc (Below.refl W4.heap.size W4) (.cells (nums .u8 [37, 0, 0, 0]).toArray 5)))
  have hlt := blk_lt hh
  have hlt2 := blk_lt hhv
  clear hh hhv hB4 hR0
  go_wp2_with fail
  refine (wput_any W4 W4.heap.size _ [37, 0, 0, 0] src _ HR0.out.1 HR0.out.2 (HR0.out.2.size) (by simp) HW.out.1.1).mono ?_
  rintro e u0 ⟨v0, rfl, hR, hB, hs⟩
  have HO0 := Aside0.mk (And.intro hR (And.intro hB hs))
  clear p0 p1 p2 p3 p4 p5 p6 p7 p8
  clear q0 q1 q2 q3 q4 q5
  have hh := blk_below HQ.out.1 hB
  have hhv := blk_below HQ.out.2.1 hB
  have p0 := (blk_cell hh 0).trans rfl
  have p1 := (blk_cell hh 1).trans rfl
  have p2 := (blk_cell hh 2).trans rfl
  have p3 := (blk_cell hh 3).trans rfl
  have p4 := (blk_cell hh 4).trans rfl
  have p5 := (blk_cell hh 5).trans rfl
  have p6 := (blk_cell hh 6).trans rfl
  have p7 := (blk_cell hh 7).trans rfl
  have p8 := (blk_cell hh 8).trans rfl
  have q0 := (blk_cell hhv 0).trans rfl
  have q1 := (blk_cell hhv 1).trans rfl
  have q2 := (blk_cell hhv 2).trans rfl
  have q3 := (blk_cell hhv 3).trans rfl
  have q4 := (blk_cell hhv 4).trans rfl
  have q5 := (blk_cell hhv 5).trans rfl
  clear hh hhv hR hB hs hlt hlt2
  go_wp2_with fail
  refine (wput_any W4 W4.heap.size _ ([37, 0, 0, 0] ++ adB src) kgrp _ HO0.out.1 HO0.out.2.1 HO0.out.2.2 (by simp [adB]) HW.out.1.2.2.2.1).mono ?_
  rintro e u1 ⟨v1, rfl, hR, hB, hs⟩
  have HO1 := Aside0.mk (And.intro hR (And.intro hB hs))
  clear p0 p1 p2 p3 p4 p5 p6 p7 p8
  clear q0 q1 q2 q3 q4 q5
  have hh := blk_below HQ.out.1 hB
  have hhv := blk_below HQ.out.2.1 hB
  have p0 := (blk_cell hh 0).trans rfl
  have p1 := (blk_cell hh 1).trans rfl
  have p2 := (blk_cell hh 2).trans rfl
  have p3 := (blk_cell hh 3).trans rfl
  have p4 := (blk_cell hh 4).trans rfl
  have p5 := (blk_cell hh 5).trans rfl
  have p6 := (blk_cell hh 6).trans rfl
  have p7 := (blk_cell hh 7).trans rfl
  have p8 := (blk_cell hh 8).trans rfl
  have q0 := (blk_cell hhv 0).trans rfl
  have q1 := (blk_cell hhv 1).trans rfl
  have q2 := (blk_cell hhv 2).trans rfl
  have q3 := (blk_cell hhv 3).trans rfl
  have q4 := (blk_cell hhv 4).trans rfl
  have q5 := (blk_cell hhv 5).trans rfl
  clear hh hhv hR hB hs
  go_wp2_with fail
  obtain ⟨A9, c9, rfl, hle9, hC9⟩ := Kd.R_reads HO1.out.1
  generalize hN : ([37, 0, 0, 0] ++ adB src ++ adB kgrp).length = N9 at *
  have HN9 := Aside0.mk hN
  clear hN
  refine (put_any A9 N9 c9 ([37, 0, 0, 0] ++ adB src ++ adB kgrp) 2 _ hC9 HBY.out (by simp [adB, nuB])).mono ?_
  rintro e w9 ⟨v9, rfl, hR9, hb9⟩
  have hB9 := below_then HQ.out.2.2 HQ.out.2.2.size HO1.out.2.1
  clear hC9 hle9
  go_wp2
  go_ret2
  exact ⟨_, rfl, Kd.R_lower hR9 hB9.size, below_then hB9 hB9.size hb9⟩
end Go.Proofs.YtbgbplbkombfjaaDoor
namespace Go.Proofs.YtbgbplbkombfjaaDoor
open Go.RowKit Go.Proofs.YtbgbplbkombfjaaDoorW.PrintWords SumPlain
set_option linter.unusedVariables false
set_option linter.unusedSimpArgs false
attribute [local go_sem] setCell_drewN alloc_drewN
set_option maxHeartbeats 1000000 in
set_option maxRecDepth 100000 in
theorem wbytes_bad (E : Nat → Addr) (K src dst ksrc kgrp rank cost : Int) (only : Bool) (l : List Int) (A : Option Addr) (n c : Nat) (w : World) (k : Nat) (hE : Errs wireErrs E w) (hw : (⟨K, src, dst, ksrc, kgrp, rank, cost, only, l⟩ : Msg).wf) (hC : Kd.C (Kd.int .u32) w A n l) (hv : validL ⟨K, src, dst, ksrc, kgrp, rank, cost, only, l⟩ = some k) :
    Calls Tryd.prog 27 #[.agg #[.int .i64 K, .int .u32 src, .int .u32 dst, .int .u32 ksrc, .int .u32 kgrp, .int .i64 rank, .int .i64 cost, .bool only, .slice A n c]] w fun e w' => e = .returned (.tuple #[.slice none 0 0, errV E (some k)]) ∧ Below w.heap.size w w' := by
  have hu2 := Tryd.underlying56
  have hu3 := Tryd.underlying53
  obtain ⟨W, hW⟩ : ∃ W, W = w.alloc (.cells #[.int .i64 K, .int .u32 src, .int .u32 dst, .int .u32 ksrc, .int .u32 kgrp, .int .i64 rank, .int .i64 cost, .bool only, .slice A n c] 56) := ⟨_, rfl⟩
  have hb0 : Below w.heap.size w W := by rw [hW]; exact below_alloc (Below.refl _ _) _
  have HX := Aside0.mk hW
  have HW := Aside0.mk (And.intro hw (And.intro hE (And.intro hC (And.intro hv hb0))))
  clear hb0 hW hw hE hC hv
  go_enter Tryd.func27, Tryd.ntmps27
  go_wp2_with fail
  have hW := HX.out
  rw [← hW]
  clear HX hW
  refine (valid_any E ⟨K, src, dst, ksrc, kgrp, rank, cost, only, l⟩ A n c W (HW.out.2.1.below HW.out.2.2.2.2) HW.out.1 (Kd.C_below HW.out.2.2.1 HW.out.2.2.2.2)).mono ?_
  rintro e w2 ⟨rfl, hb2⟩
  rw [HW.out.2.2.2.1]
  simp only [errV]
  have hB2 := reach_to HW.out.2.2.2.2 HW.out.2.2.2.2.size hb2
  go_wp2
  go_ret2
  exact ⟨rfl, hB2⟩
theorem validL_none (m : Msg) (h : validL m = none) : (1 ≤ m.kind ∧ m.kind ≤ 5) ∧ m.l.length ≤ 4 ∧ m.ok := by
  unfold validL at h
  split at h
  · cases h
  · rename_i h1
    split at h
    · cases h
    · rename_i h2
      split at h
      · cases h
      · rename_i h3
        exact ⟨Decidable.not_not.1 h1, by omega, Decidable.not_not.1 h3⟩
/-- What wire.Bytes comes to. -/
def wbL (m : Msg) : List Int := if validL m = none then msgL m else []
theorem wbytes_any (E : Nat → Addr) (m : Msg) (A : Option Addr) (n c : Nat) (w : World) (hE : Errs wireErrs E w) (hw : m.wf) (hC : Kd.C (Kd.int .u32) w A n m.l) :
    Calls Tryd.prog 27 #[.agg (m.cells (.slice A n c))] w fun e w' => ∃ v, e = .returned (.tuple #[v, errV E (validL m)]) ∧ (Kd.int .u8).R 5 w' w.heap.size (fun _ => True) v (wbL m) ∧ Below w.heap.size w w' := by
  obtain ⟨K, src, dst, ksrc, kgrp, rank, cost, only, l⟩ := m
  unfold wbL
  cases hv : validL ⟨K, src, dst, ksrc, kgrp, rank, cost, only, l⟩ with
  | some k =>
    rw [if_neg (by simp)]
    refine (wbytes_bad E K src dst ksrc kgrp rank cost only l A n c w k hE hw hC hv).mono ?_
    rintro e w' ⟨rfl, hb⟩
    exact ⟨_, rfl, Kd.R_nil _ _ _ _ _, hb⟩
  | none =>
    rw [if_pos rfl]
    obtain ⟨h1, h2, h3⟩ := validL_none _ hv
    simp only at h1 h2
    obtain rfl | rfl | rfl | rfl | rfl : K = 1 ∨ K = 2 ∨ K = 3 ∨ K = 4 ∨ K = 5 := by omega
    · exact wbytes1 E src dst ksrc kgrp rank cost only l A n c w hE hw hC hv h3 h2
    · exact wbytes2 E src dst ksrc kgrp rank cost only l A n c w hE hw hC hv h3 h2
    · exact wbytes3 E src dst ksrc kgrp rank cost only l A n c w hE hw hC hv h3 h2
    · exact wbytes4 E src dst ksrc kgrp rank cost only l A n c w hE hw hC hv h3 h2
    · exact wbytes5 E src dst ksrc kgrp rank cost only l A n c w hE hw hC hv h3 h2
end Go.Proofs.YtbgbplbkombfjaaDoor
