/- WireBack: the walk of the law. -/
import Derived.Test.YtbgbplbkombfjaaDoorWReadA
import Derived.Test.YtbgbplbkombfjaaDoorWSame
import Derived.Test.YtbgbplbkombfjaaDoorWSameRef
import Derived.Test.YtbgbplbkombfjaaDoorFlip
namespace Go.Proofs.YtbgbplbkombfjaaDoor
open Go.RowKit Go.Proofs.YtbgbplbkombfjaaDoorW.PrintWords SumPlain
set_option linter.unusedVariables false
set_option linter.unusedSimpArgs false
attribute [local go_sem] setCell_drewN alloc_drewN
theorem wire_ord : ∀ i, i ∈ wireErrs → i ∈ ordE := by decide
theorem read_ord : ∀ i, i ∈ readErrs → i ∈ ordE := by decide
theorem is_sum (E : Nat → Addr) (w : World) (hE : Errs ordE E w) :
    Calls Tryd.prog 20 #[.iface 114 (.pointer (some (E 3))), .int .i64 105] w fun e w' => e = .returned (.bool true) ∧ Below w.heap.size w w' := by
  have h := is_any E (some 3) 105 (fun i hi => by cases hi; decide) w hE
  rwa [show decide (codeOf (some 3) = 105) = true by decide] at h
set_option maxHeartbeats 1000000 in
set_option maxRecDepth 100000 in
theorem wireBack_bad (E : Nat → Addr) (m : Msg) (bit cut : Int) (A0 A : Option Addr) (n0 n c0 c : Nat) (l : List Int) (w : World) (hE : Errs ordE E w) (hw : m.wf) (h0 : Kd.C (Kd.int .u32) w A0 n0 m.l) (k : Nat) (hv : validL m = some k) :
    Calls Tryd.prog 10 #[.agg (m.cells (.slice A0 n0 c0)), .int .i64 bit, .int .i64 cut, .slice A n c] w fun e w' => e = .returned (.bool true) ∧ Below w.heap.size w w' := by
  have hu2 := Tryd.underlying56
  have hu3 := Tryd.underlying53
  obtain ⟨x0, x1, x2, x3, x4, x5, x6, x7, lx⟩ := m
  simp only [Msg.cells]
  obtain ⟨W, hW⟩ : ∃ W, W = w.alloc (.cells #[.int .i64 x0, .int .u32 x1, .int .u32 x2, .int .u32 x3, .int .u32 x4, .int .i64 x5, .int .i64 x6, .bool x7, .slice A0 n0 c0] 56) := ⟨_, rfl⟩
  have hb0 : Below w.heap.size w W := by rw [hW]; exact below_alloc (Below.refl _ _) _
  have hh : W.heap[w.heap.size]? = some (.cells #[.int .i64 x0, .int .u32 x1, .int .u32 x2, .int .u32 x3, .int .u32 x4, .int .i64 x5, .int .i64 x6, .bool x7, .slice A0 n0 c0] 56 (0, 0)) := by rw [hW]; exact heap_alloc_new w _
  have HW := Aside0.mk (And.intro hE (And.intro hw (And.intro h0 hv)))
  have HS := Aside0.mk (And.intro hb0 hh)
  have HX := Aside0.mk hW
  clear hb0 hh hW hE hw h0 hv
  go_enter Tryd.func10, Tryd.ntmps10
  go_wp2_with fail
  rw [← HX.out]
  obtain ⟨hb0, hh⟩ := HS.out
  obtain ⟨b, hb⟩ : ∃ b, b = w.heap.size := ⟨_, rfl⟩
  rw [← hb] at hh ⊢
  clear HX HS hb
  refine (first4_any E W ((HW.out.1.below hb0).sub wire_ord)).mono ?_
  rintro e w2 ⟨rfl, hb2⟩
  have hh := blk_below hh hb2
  have hB := reach_to' hb0 hb0.size hb2
  clear hb0 hb2
  have p0 := (blk_cell hh 0).trans rfl
  have p1 := (blk_cell hh 1).trans rfl
  have p2 := (blk_cell hh 2).trans rfl
  have p3 := (blk_cell hh 3).trans rfl
  have p4 := (blk_cell hh 4).trans rfl
  have p5 := (blk_cell hh 5).trans rfl
  have p6 := (blk_cell hh 6).trans rfl
  have p7 := (blk_cell hh 7).trans rfl
  have p8 := (blk_cell hh 8).trans rfl
  have HQ := Aside0.mk (And.intro hh hB)
  clear hh hB
  go_wp2_with fail
  clear p0 p1 p2 p3 p4 p5 p6 p7 p8
  refine (wbytes_any E ⟨x0, x1, x2, x3, x4, x5, x6, x7, lx⟩ A0 n0 c0 w2 ((HW.out.1.below HQ.out.2).sub wire_ord) HW.out.2.1 (Kd.C_below HW.out.2.2.1 HQ.out.2)).mono ?_
  rintro e w3 ⟨v3, rfl, hR3, hb3⟩
  rw [HW.out.2.2.2]
  simp only [errV]
  have hB3 := reach_to' HQ.out.2 HQ.out.2.size hb3
  clear hR3 hb3 HQ
  go_wp2
  all_goals go_ret
  all_goals exact ⟨rfl, hB3⟩
set_option maxHeartbeats 1000000 in
set_option maxRecDepth 100000 in
theorem wireBack_long (E : Nat → Addr) (m : Msg) (bit cut : Int) (A0 A : Option Addr) (n0 n c0 c : Nat) (l : List Int) (w : World) (hE : Errs ordE E w) (hw : m.wf) (h0 : Kd.C (Kd.int .u32) w A0 n0 m.l) (hv : validL m = none) (hn : ¬ n ≤ 40) (hmx : n ≤ 9223372036854775807) :
    Calls Tryd.prog 10 #[.agg (m.cells (.slice A0 n0 c0)), .int .i64 bit, .int .i64 cut, .slice A n c] w fun e w' => e = .returned (.bool true) ∧ Below w.heap.size w w' := by
  have hu2 := Tryd.underlying56
  have hu3 := Tryd.underlying53
  obtain ⟨x0, x1, x2, x3, x4, x5, x6, x7, lx⟩ := m
  simp only [Msg.cells]
  obtain ⟨W, hW⟩ : ∃ W, W = w.alloc (.cells #[.int .i64 x0, .int .u32 x1, .int .u32 x2, .int .u32 x3, .int .u32 x4, .int .i64 x5, .int .i64 x6, .bool x7, .slice A0 n0 c0] 56) := ⟨_, rfl⟩
  have hb0 : Below w.heap.size w W := by rw [hW]; exact below_alloc (Below.refl _ _) _
  have hh : W.heap[w.heap.size]? = some (.cells #[.int .i64 x0, .int .u32 x1, .int .u32 x2, .int .u32 x3, .int .u32 x4, .int .i64 x5, .int .i64 x6, .bool x7, .slice A0 n0 c0] 56 (0, 0)) := by rw [hW]; exact heap_alloc_new w _
  have HW := Aside0.mk (And.intro hE (And.intro hw (And.intro h0 (And.intro hv hn))))
  have HS := Aside0.mk (And.intro hb0 hh)
  have HX := Aside0.mk hW
  clear hb0 hh hW hE hw h0 hv
  go_enter Tryd.func10, Tryd.ntmps10
  go_wp2_with fail
  rw [← HX.out]
  obtain ⟨hb0, hh⟩ := HS.out
  obtain ⟨b, hb⟩ : ∃ b, b = w.heap.size := ⟨_, rfl⟩
  rw [← hb] at hh ⊢
  clear HX HS hb
  refine (first4_any E W ((HW.out.1.below hb0).sub wire_ord)).mono ?_
  rintro e w2 ⟨rfl, hb2⟩
  have hh := blk_below hh hb2
  have hB := reach_to' hb0 hb0.size hb2
  clear hb0 hb2
  have p0 := (blk_cell hh 0).trans rfl
  have p1 := (blk_cell hh 1).trans rfl
  have p2 := (blk_cell hh 2).trans rfl
  have p3 := (blk_cell hh 3).trans rfl
  have p4 := (blk_cell hh 4).trans rfl
  have p5 := (blk_cell hh 5).trans rfl
  have p6 := (blk_cell hh 6).trans rfl
  have p7 := (blk_cell hh 7).trans rfl
  have p8 := (blk_cell hh 8).trans rfl
  have HQ := Aside0.mk (And.intro hh hB)
  clear hh hB
  go_wp2_with fail
  clear p0 p1 p2 p3 p4 p5 p6 p7 p8
  refine (wbytes_any E ⟨x0, x1, x2, x3, x4, x5, x6, x7, lx⟩ A0 n0 c0 w2 ((HW.out.1.below HQ.out.2).sub wire_ord) HW.out.2.1 (Kd.C_below HW.out.2.2.1 HQ.out.2)).mono ?_
  rintro e w3 ⟨v3, rfl, hR3, hb3⟩
  have hwb : wbL ⟨x0, x1, x2, x3, x4, x5, x6, x7, lx⟩ = msgL ⟨x0, x1, x2, x3, x4, x5, x6, x7, lx⟩ := by unfold wbL; rw [HW.out.2.2.2.1, if_pos rfl]
  rw [hwb] at hR3
  rw [HW.out.2.2.2.1]
  simp only [errV]
  obtain ⟨A3, c3, rfl, hle3, hC3⟩ := Kd.R_reads hR3
  have hB3 := reach_to' HQ.out.2 HQ.out.2.size hb3
  generalize (msgL ⟨x0, x1, x2, x3, x4, x5, x6, x7, lx⟩).length = N at *
  clear hR3 hb3 HQ hC3 hwb
  go_wp2
  all_goals go_ret
  all_goals exact ⟨rfl, hB3⟩
set_option maxHeartbeats 8000000 in
set_option maxRecDepth 100000 in
theorem wireBack_good (E : Nat → Addr) (m : Msg) (bit cut : Int) (A0 A : Option Addr) (n0 n c0 c : Nat) (l : List Int) (w : World) (hE : Errs ordE E w) (hw : m.wf) (h0 : Kd.C (Kd.int .u32) w A0 n0 m.l) (hv : validL m = none) (hbit : (Lit.int .i64 bit).wf = true) (hcut : (Lit.int .i64 cut).wf = true) (hC : Kd.C (Kd.int .u8) w A n l) (hby : Byt l) (hle : n ≤ c) (hn : n ≤ 40) (N : Nat) (hN : (msgL m).length = N) (hN0 : 10 ≤ N) (hN1 : N ≤ 40) :
    Calls Tryd.prog 10 #[.agg (m.cells (.slice A0 n0 c0)), .int .i64 bit, .int .i64 cut, .slice A n c] w fun e w' => e = .returned (.bool true) ∧ Below w.heap.size w w' := by
  have hu2 := Tryd.underlying56
  have hu3 := Tryd.underlying53
  obtain ⟨x0, x1, x2, x3, x4, x5, x6, x7, lx⟩ := m
  simp only [Msg.cells]
  obtain ⟨W, hW⟩ : ∃ W, W = w.alloc (.cells #[.int .i64 x0, .int .u32 x1, .int .u32 x2, .int .u32 x3, .int .u32 x4, .int .i64 x5, .int .i64 x6, .bool x7, .slice A0 n0 c0] 56) := ⟨_, rfl⟩
  have hb0 : Below w.heap.size w W := by rw [hW]; exact below_alloc (Below.refl _ _) _
  have hh : W.heap[w.heap.size]? = some (.cells #[.int .i64 x0, .int .u32 x1, .int .u32 x2, .int .u32 x3, .int .u32 x4, .int .i64 x5, .int .i64 x6, .bool x7, .slice A0 n0 c0] 56 (0, 0)) := by rw [hW]; exact heap_alloc_new w _
  have HW := Aside0.mk (And.intro hE (And.intro hw (And.intro h0 (And.intro hv (And.intro hC (And.intro hby (And.intro hN trivial)))))))
  have hlx : lx.length ≤ 4 := (valid_ok _ hv).2.1
  have hn0 : n0 ≤ 4 := by rw [← show lx.length = n0 from h0.1]; exact hlx
  have HL := Aside0.mk (show lx.length ≤ 1000000 by omega)
  have HN := Aside0.mk (And.intro hbit hcut)
  have HS := Aside0.mk (And.intro hb0 hh)
  have HX := Aside0.mk hW
  clear hb0 hh hW hE hw h0 hv hC hby hN hlx hbit hcut
  go_enter Tryd.func10, Tryd.ntmps10
  go_wp2_with fail
  rw [← HX.out]
  obtain ⟨hb0, hh⟩ := HS.out
  obtain ⟨b, hb⟩ : ∃ b, b = w.heap.size := ⟨_, rfl⟩
  rw [← hb] at hh ⊢
  clear HX HS hb
  refine (first4_any E W ((HW.out.1.below hb0).sub wire_ord)).mono ?_
  rintro e w2 ⟨rfl, hb2⟩
  have hh := blk_below hh hb2
  have hB := reach_to' hb0 hb0.size hb2
  clear hb0 hb2
  have p0 := (blk_cell hh 0).trans rfl
  have p1 := (blk_cell hh 1).trans rfl
  have p2 := (blk_cell hh 2).trans rfl
  have p3 := (blk_cell hh 3).trans rfl
  have p4 := (blk_cell hh 4).trans rfl
  have p5 := (blk_cell hh 5).trans rfl
  have p6 := (blk_cell hh 6).trans rfl
  have p7 := (blk_cell hh 7).trans rfl
  have p8 := (blk_cell hh 8).trans rfl
  have HQ := Aside0.mk (And.intro hh hB)
  clear hh hB
  go_wp2_with fail
  clear p0 p1 p2 p3 p4 p5 p6 p7 p8
  refine (wbytes_any E ⟨x0, x1, x2, x3, x4, x5, x6, x7, lx⟩ A0 n0 c0 w2 ((HW.out.1.below HQ.out.2).sub wire_ord) HW.out.2.1 (Kd.C_below HW.out.2.2.1 HQ.out.2)).mono ?_
  rintro e w3 ⟨v3, rfl, hR3, hb3⟩
  have hwb : wbL ⟨x0, x1, x2, x3, x4, x5, x6, x7, lx⟩ = msgL ⟨x0, x1, x2, x3, x4, x5, x6, x7, lx⟩ := by unfold wbL; rw [HW.out.2.2.2.1, if_pos rfl]
  rw [hwb] at hR3
  rw [HW.out.2.2.2.1]
  simp only [errV]
  obtain ⟨A3, c3, rfl, hle3, hC3⟩ := Kd.R_reads hR3
  have hN := HW.out.2.2.2.2.2.2.1
  rw [hN] at hle3 hC3 ⊢
  have hh := blk_below HQ.out.1 hb3
  have hB := reach_to' HQ.out.2 HQ.out.2.size hb3
  clear hR3 hb3 HQ hwb hN
  have p0 := (blk_cell hh 0).trans rfl
  have p1 := (blk_cell hh 1).trans rfl
  have p2 := (blk_cell hh 2).trans rfl
  have p3 := (blk_cell hh 3).trans rfl
  have p4 := (blk_cell hh 4).trans rfl
  have p5 := (blk_cell hh 5).trans rfl
  have p6 := (blk_cell hh 6).trans rfl
  have p7 := (blk_cell hh 7).trans rfl
  have p8 := (blk_cell hh 8).trans rfl
  have HQ := Aside0.mk (And.intro hh (And.intro hB hC3))
  clear hh hB hC3
  go_wp2_with fail
  clear p0 p1 p2 p3 p4 p5 p6 p7 p8
  refine (light_any ⟨x0, x1, x2, x3, x4, x5, x6, x7, lx⟩ A0 n0 c0 w3).mono ?_
  rintro e w4 ⟨rfl, hb4⟩
  rw [decide_eq_true (show (n0 : Int) ≤ 20 by omega)]
  have hh := blk_below HQ.out.1 hb4
  have hB := reach_to' HQ.out.2.1 HQ.out.2.1.size hb4
  have hC3 := Kd.C_below HQ.out.2.2 hb4
  clear HQ hb4
  have HQ := Aside0.mk (And.intro hh (And.intro hB hC3))
  clear hh hB hC3
  go_wp2_with fail
  refine (read_any E A3 N c3 (msgL ⟨x0, x1, x2, x3, x4, x5, x6, x7, lx⟩) w4 ((HW.out.1.below HQ.out.2.1).sub read_ord) HQ.out.2.2 (msgL_byt _ HW.out.2.1 HW.out.2.2.2.1) hle3 (by rw [HW.out.2.2.2.2.2.2.1]; omega)).mono ?_
  rintro e w5 ⟨A5, n5, c5, rfl, hC5, hb5⟩
  rw [readM_msgL _ HW.out.2.1 HW.out.2.2.2.1] at hC5 ⊢
  simp only [errV, Msg.cells]
  have hh := blk_below HQ.out.1 hb5
  have hB := reach_to' HQ.out.2.1 HQ.out.2.1.size hb5
  have hC3 := Kd.C_below HQ.out.2.2 hb5
  clear HQ hb5
  have HQ := Aside0.mk (And.intro hh (And.intro hB hC3))
  clear hh hB hC3
  obtain ⟨W5, hW5⟩ : ∃ X, X = w5.alloc (.cells #[.int .i64 x0, .int .u32 x1, .int .u32 x2, .int .u32 x3, .int .u32 x4, .int .i64 x5, .int .i64 x6, .bool x7, .slice A5 n5 c5] 56) := ⟨_, rfl⟩
  have hb5 : Below w5.heap.size w5 W5 := by rw [hW5]; exact below_alloc (Below.refl _ _) _
  have hg5 : W5.heap[w5.heap.size]? = some (.cells #[.int .i64 x0, .int .u32 x1, .int .u32 x2, .int .u32 x3, .int .u32 x4, .int .i64 x5, .int .i64 x6, .bool x7, .slice A5 n5 c5] 56 (0, 0)) := by rw [hW5]; exact heap_alloc_new w5 _
  have hC5 := Kd.C_below hC5 hb5
  have hh := blk_below HQ.out.1 hb5
  have hB := reach_to' HQ.out.2.1 HQ.out.2.1.size hb5
  have hC3 := Kd.C_below HQ.out.2.2 hb5
  clear HQ hb5
  have HQ := Aside0.mk (And.intro hh (And.intro hB hC3))
  clear hh hB hC3
  have HX := Aside0.mk hW5
  clear hW5
  have hh := HQ.out.1
  have p0 := (blk_cell hh 0).trans rfl
  have p1 := (blk_cell hh 1).trans rfl
  have p2 := (blk_cell hh 2).trans rfl
  have p3 := (blk_cell hh 3).trans rfl
  have p4 := (blk_cell hh 4).trans rfl
  have p5 := (blk_cell hh 5).trans rfl
  have p6 := (blk_cell hh 6).trans rfl
  have p7 := (blk_cell hh 7).trans rfl
  have p8 := (blk_cell hh 8).trans rfl
  have q0 := (blk_cell hg5 0).trans rfl
  have q1 := (blk_cell hg5 1).trans rfl
  have q2 := (blk_cell hg5 2).trans rfl
  have q3 := (blk_cell hg5 3).trans rfl
  have q4 := (blk_cell hg5 4).trans rfl
  have q5 := (blk_cell hg5 5).trans rfl
  have q6 := (blk_cell hg5 6).trans rfl
  have q7 := (blk_cell hg5 7).trans rfl
  have q8 := (blk_cell hg5 8).trans rfl
  have HG := Aside0.mk (And.intro hg5 hC5)
  clear hh hg5 hC5
  go_wp2_with (rw [← HX.out])
  clear p0 p1 p2 p3 p4 p5 p6 p7 p8
  clear q0 q1 q2 q3 q4 q5 q6 q7 q8
  obtain ⟨b5, hb5⟩ : ∃ b5, b5 = w5.heap.size := ⟨_, rfl⟩
  rw [← hb5] at HG ⊢
  clear hb5 HX
  refine (wsame_any ⟨x0, x1, x2, x3, x4, x5, x6, x7, lx⟩ ⟨x0, x1, x2, x3, x4, x5, x6, x7, lx⟩ A5 A0 n5 n0 c5 c0 W5 HG.out.2 (Kd.C_below HW.out.2.2.1 HQ.out.2.1) HL.out).mono ?_
  rintro e w6 ⟨rfl, hb6⟩
  rw [decide_eq_true rfl]
  have hg5 := blk_below HG.out.1 hb6
  have hC5 := Kd.C_below HG.out.2 hb6
  clear HG
  have hh := blk_below HQ.out.1 hb6
  have hB := reach_to' HQ.out.2.1 HQ.out.2.1.size hb6
  have hC3 := Kd.C_below HQ.out.2.2 hb6
  clear HQ hb6
  have HQ := Aside0.mk (And.intro hh (And.intro hB hC3))
  clear hh hB hC3
  have hh := HQ.out.1
  have p0 := (blk_cell hh 0).trans rfl
  have p1 := (blk_cell hh 1).trans rfl
  have p2 := (blk_cell hh 2).trans rfl
  have p3 := (blk_cell hh 3).trans rfl
  have p4 := (blk_cell hh 4).trans rfl
  have p5 := (blk_cell hh 5).trans rfl
  have p6 := (blk_cell hh 6).trans rfl
  have p7 := (blk_cell hh 7).trans rfl
  have p8 := (blk_cell hh 8).trans rfl
  have q0 := (blk_cell hg5 0).trans rfl
  have q1 := (blk_cell hg5 1).trans rfl
  have q2 := (blk_cell hg5 2).trans rfl
  have q3 := (blk_cell hg5 3).trans rfl
  have q4 := (blk_cell hg5 4).trans rfl
  have q5 := (blk_cell hg5 5).trans rfl
  have q6 := (blk_cell hg5 6).trans rfl
  have q7 := (blk_cell hg5 7).trans rfl
  have q8 := (blk_cell hg5 8).trans rfl
  have HG := Aside0.mk hC5
  clear hh hg5 hC5
  go_wp2_with fail
  clear p0 p1 p2 p3 p4 p5 p6 p7 p8
  clear q0 q1 q2 q3 q4 q5 q6 q7 q8
  refine (smsg_any ⟨x0, x1, x2, x3, x4, x5, x6, x7, lx⟩ ⟨x0, x1, x2, x3, x4, x5, x6, x7, lx⟩ A5 A0 n5 n0 c5 c0 w6 HG.out (Kd.C_below HW.out.2.2.1 HQ.out.2.1) HL.out).mono ?_
  rintro e w7 ⟨rfl, hb7⟩
  rw [decide_eq_true rfl]
  clear HG
  have hh := blk_below HQ.out.1 hb7
  have hB := reach_to' HQ.out.2.1 HQ.out.2.1.size hb7
  have hC3 := Kd.C_below HQ.out.2.2 hb7
  clear HQ hb7
  have HQ := Aside0.mk (And.intro hh (And.intro hB hC3))
  clear hh hB hC3
  go_wp2_with fail
  obtain ⟨q, hq, HNum⟩ := number_ex bit (8 * (N : Int)) (by omega) (by omega) HN.out.1
  refine (HNum.out w7).mono ?_
  rintro e w8 ⟨rfl, rfl⟩
  clear HNum
  go_wp2_with fail
  refine (bytes_any A3 N c3 (msgL ⟨x0, x1, x2, x3, x4, x5, x6, x7, lx⟩) w7 HQ.out.2.2 (by rw [HW.out.2.2.2.2.2.2.1]; omega)).mono ?_
  rintro e w10 ⟨v10, rfl, hR10, hb10⟩
  obtain ⟨g2, c2, rfl, hg2⟩ := R_form hR10 (by rw [HW.out.2.2.2.2.2.2.1]; omega)
  rw [HW.out.2.2.2.2.2.2.1] at hR10 ⊢
  have hl2 := (R_C hR10).1
  have hq8 : q / 8 < N := by omega
  obtain ⟨r0, f0⟩ := R_nat hR10 HW.out.2.2.2.2.2.2.1 (q / 8) hq8
  obtain ⟨hu0, hu1⟩ := byt_getD (msgL_byt _ HW.out.2.1 HW.out.2.2.2.1) (q / 8)
  have HF := Aside0.mk (flip_any ((msgL ⟨x0, x1, x2, x3, x4, x5, x6, x7, lx⟩).getD (q / 8) 0) (q % 8) hu0 hu1 (by omega))
  have HR10 := Aside0.mk (And.intro hR10 (And.intro hb10 hg2))
  clear hR10 hb10
  generalize hu : (msgL ⟨x0, x1, x2, x3, x4, x5, x6, x7, lx⟩).getD (q / 8) 0 = u at *
  have HU := Aside0.mk hu
  clear hu
  go_wp2_with fail
  have hshow : bits BinOp.xor IntKind.u8 u (2 ^ (q % 8) % 256) = flip u (q % 8) := rfl
  rw [hshow]
  clear hshow r0 f0
  obtain ⟨f, hf⟩ : ∃ f, f = flip u (q % 8) := ⟨_, rfl⟩
  rw [← hf] at HF ⊢
  clear hf
  obtain ⟨hR10, hb10, _⟩ := HR10.out
  have hR11 := R_putn hR10 HW.out.2.2.2.2.2.2.1 (q / 8) f
  have hb11 := hb10.setCell hg2 (p := ⟨g2, q / 8, none⟩) (.int .u8 f)
  have hTurn : (readM ((msgL ⟨x0, x1, x2, x3, x4, x5, x6, x7, lx⟩).set (q / 8) f)).2 = some 3 := readM_tells _ HW.out.2.1 HW.out.2.2.2.1 (q / 8) f (q % 8) (by omega) (by rw [HW.out.2.2.2.2.2.2.1]; exact hq8) (by rw [HU.out]; exact HF.out.2.2.1)
  have hbt : Byt ((msgL ⟨x0, x1, x2, x3, x4, x5, x6, x7, lx⟩).set (q / 8) f) := byt_set (msgL_byt _ HW.out.2.1 HW.out.2.2.2.1) _ _ ⟨HF.out.1, HF.out.2.1⟩
  clear hR10 hb10 HR10 HU HF hg2
  generalize w10.setCell ⟨g2, q / 8, none⟩ (.int .u8 f) = w11 at *
  have hh := blk_below HQ.out.1 hb11
  have hB := reach_to' HQ.out.2.1 HQ.out.2.1.size hb11
  have hC3 := Kd.C_below HQ.out.2.2 hb11
  clear HQ hb11
  have HQ := Aside0.mk (And.intro hh (And.intro hB hC3))
  clear hh hB hC3
  refine (read_any E (some ⟨g2, 0, none⟩) N c2 _ w11 ((HW.out.1.below HQ.out.2.1).sub read_ord) (R_C hR11).2 hbt hl2 (by rw [List.length_set, HW.out.2.2.2.2.2.2.1]; omega)).mono ?_
  rintro e w12 ⟨A12, n12, c12, rfl, hC12, hb12⟩
  rw [readM_err _ _ hTurn]
  simp only [errV, zMsg, Msg.cells]
  clear hC12 hR11 hTurn hbt hl2
  have hh := blk_below HQ.out.1 hb12
  have hB := reach_to' HQ.out.2.1 HQ.out.2.1.size hb12
  have hC3 := Kd.C_below HQ.out.2.2 hb12
  clear HQ hb12
  have HQ := Aside0.mk (And.intro hh (And.intro hB hC3))
  clear hh hB hC3
  obtain ⟨W12, hW12⟩ : ∃ X, X = w12.alloc (.cells #[.int .i64 0, .int .u32 0, .int .u32 0, .int .u32 0, .int .u32 0, .int .i64 0, .int .i64 0, .bool false, .slice A12 n12 c12] 56) := ⟨_, rfl⟩
  have hb13 : Below w12.heap.size w12 W12 := by rw [hW12]; exact below_alloc (Below.refl _ _) _
  have hh := blk_below HQ.out.1 hb13
  have hB := reach_to' HQ.out.2.1 HQ.out.2.1.size hb13
  have hC3 := Kd.C_below HQ.out.2.2 hb13
  clear HQ hb13
  have HQ := Aside0.mk (And.intro hh (And.intro hB hC3))
  clear hh hB hC3
  have HX := Aside0.mk hW12
  clear hW12
  go_wp2_with (rw [← HX.out])
  clear HX
  obtain ⟨q2, hq2, HNum⟩ := number_ex cut (N : Int) (by omega) (by omega) HN.out.2
  refine (HNum.out W12).mono ?_
  rintro e w13 ⟨rfl, rfl⟩
  clear HNum
  have hq2' : q2 < N := by omega
  have hct := cut_to (P := Tryd.prog) 26 5 .i64 Tryd.underlying26 Tryd.infoB A3 N c3 (q2 : Int) q2 rfl (by omega)
  go_wp2_with fail
  clear hct
  have hcut := readM_cut _ HW.out.2.1 HW.out.2.2.2.1 q2 (by rw [HW.out.2.2.2.2.2.2.1]; exact hq2')
  obtain ⟨k1, hk1⟩ := Option.ne_none_iff_exists'.1 hcut
  refine (read_any E A3 q2 c3 ((msgL ⟨x0, x1, x2, x3, x4, x5, x6, x7, lx⟩).take q2) W12 ((HW.out.1.below HQ.out.2.1).sub read_ord) (C_take' HQ.out.2.2 (by omega)) (byt_take (msgL_byt _ HW.out.2.1 HW.out.2.2.2.1) _) (by omega) (by rw [List.length_take, HW.out.2.2.2.2.2.2.1]; omega)).mono ?_
  rintro e w14 ⟨A14, n14, c14, rfl, hC14, hb14⟩
  rw [readM_err _ _ hk1]
  simp only [errV, zMsg, Msg.cells]
  clear hC14 hcut hk1
  have hh := blk_below HQ.out.1 hb14
  have hB := reach_to' HQ.out.2.1 HQ.out.2.1.size hb14
  have hC3 := Kd.C_below HQ.out.2.2 hb14
  clear HQ hb14
  have HQ := Aside0.mk (And.intro hh (And.intro hB hC3))
  clear hh hB hC3
  obtain ⟨W14, hW14⟩ : ∃ X, X = w14.alloc (.cells #[.int .i64 0, .int .u32 0, .int .u32 0, .int .u32 0, .int .u32 0, .int .i64 0, .int .i64 0, .bool false, .slice A14 n14 c14] 56) := ⟨_, rfl⟩
  have hb15 : Below w14.heap.size w14 W14 := by rw [hW14]; exact below_alloc (Below.refl _ _) _
  have hh := blk_below HQ.out.1 hb15
  have hB := reach_to' HQ.out.2.1 HQ.out.2.1.size hb15
  have hC3 := Kd.C_below HQ.out.2.2 hb15
  clear HQ hb15
  have HQ := Aside0.mk (And.intro hh (And.intro hB hC3))
  clear hh hB hC3
  have HX := Aside0.mk hW14
  clear hW14
  go_wp2_with (rw [← HX.out])
  clear HX
  refine (bytes_any A3 N c3 (msgL ⟨x0, x1, x2, x3, x4, x5, x6, x7, lx⟩) W14 HQ.out.2.2 (by rw [HW.out.2.2.2.2.2.2.1]; omega)).mono ?_
  rintro e w15 ⟨v15, rfl, hR15, hb15⟩
  have HB15 := Aside0.mk (And.intro hR15 (And.intro hb15 (Kd.C_below (Kd.C_below HW.out.2.2.2.2.1 HQ.out.2.1) hb15)))
  clear hR15 hb15
  go_wp2_with (at_builtin; refine Kd.R_append_row (w0 := W14) (Value.int .u8) 0 W14.heap.size rfl (.tmp 102) (.tmp 103) 26 5 (.int .u8 0) 1 rfl Tryd.underlying26 Tryd.infoB rfl (by decide) v15 (msgL ⟨x0, x1, x2, x3, x4, x5, x6, x7, lx⟩) l A n c (fun _ => True) (by rfl) (by rfl) (fun _ _ => trivial) HB15.out.1 HB15.out.2.2 HB15.out.2.1 (HB15.out.2.1.size) ?_ ?_)
  · rw [HW.out.2.2.2.2.2.2.1]; omega
  intro v16 w16 hR16 hb16 _ _
  clear HB15
  have hh := blk_below HQ.out.1 hb16
  have hB := reach_to' HQ.out.2.1 HQ.out.2.1.size hb16
  have hC3 := Kd.C_below HQ.out.2.2 hb16
  clear HQ hb16
  have HQ := Aside0.mk (And.intro hh (And.intro hB hC3))
  clear hh hB hC3
  obtain ⟨A16, c16, rfl, hle16, hC16⟩ := Kd.R_reads hR16
  have hll : (msgL ⟨x0, x1, x2, x3, x4, x5, x6, x7, lx⟩ ++ l).length ≤ 1000000 := by rw [List.length_append, HW.out.2.2.2.2.2.2.1, HW.out.2.2.2.2.1.1]; omega
  have HL16 := Aside0.mk (And.intro hll (byt_append (msgL_byt _ HW.out.2.1 HW.out.2.2.2.1) HW.out.2.2.2.2.2.1))
  clear hll hR16
  generalize hN16 : (msgL ⟨x0, x1, x2, x3, x4, x5, x6, x7, lx⟩ ++ l).length = N16 at *
  have HC16 := Aside0.mk hC16
  clear hC16 hN16
  go_wp2_with fail
  refine (read_any E A16 N16 c16 (msgL ⟨x0, x1, x2, x3, x4, x5, x6, x7, lx⟩ ++ l) w16 ((HW.out.1.below HQ.out.2.1).sub read_ord) HC16.out HL16.out.2 hle16 (by rw [HC16.out.1]; exact HL16.out.1)).mono ?_
  rintro e w17 ⟨A17, n17, c17, rfl, hC17, hb17⟩
  clear HC16 HL16 hle16
  have hh := blk_below HQ.out.1 hb17
  have hB := reach_to' HQ.out.2.1 HQ.out.2.1.size hb17
  have hC3 := Kd.C_below HQ.out.2.2 hb17
  clear HQ hb17
  have HQ := Aside0.mk (And.intro hh (And.intro hB hC3))
  clear hh hB hC3
  by_cases hl0 : n = 0
  · have hln : l = [] := List.eq_nil_of_length_eq_zero (by rw [HW.out.2.2.2.2.1.1]; exact hl0)
    have hrd : readM (msgL ⟨x0, x1, x2, x3, x4, x5, x6, x7, lx⟩ ++ l) = (⟨x0, x1, x2, x3, x4, x5, x6, x7, lx⟩, none) := by rw [hln, List.append_nil]; exact readM_msgL _ HW.out.2.1 HW.out.2.2.2.1
    rw [hrd]
    simp only [errV, Msg.cells]
    clear hC17 hrd hln
    subst hl0
    obtain ⟨W17, hW17⟩ : ∃ X, X = w17.alloc (.cells #[.int .i64 x0, .int .u32 x1, .int .u32 x2, .int .u32 x3, .int .u32 x4, .int .i64 x5, .int .i64 x6, .bool x7, .slice A17 n17 c17] 56) := ⟨_, rfl⟩
    have hb18 : Below w17.heap.size w17 W17 := by rw [hW17]; exact below_alloc (Below.refl _ _) _
    have hh := blk_below HQ.out.1 hb18
    have hB := reach_to' HQ.out.2.1 HQ.out.2.1.size hb18
    have hC3 := Kd.C_below HQ.out.2.2 hb18
    clear HQ hb18
    have HQ := Aside0.mk (And.intro hh (And.intro hB hC3))
    clear hh hB hC3
    have HX := Aside0.mk hW17
    clear hW17
    go_wp2_with (rw [← HX.out])
    clear HX
    refine (is_sum E W17 (HW.out.1.below HQ.out.2.1)).mono ?_
    rintro e w18 ⟨rfl, hb18⟩
    have hh := blk_below HQ.out.1 hb18
    have hB := reach_to' HQ.out.2.1 HQ.out.2.1.size hb18
    have hC3 := Kd.C_below HQ.out.2.2 hb18
    clear HQ hb18
    have HQ := Aside0.mk (And.intro hh (And.intro hB hC3))
    clear hh hB hC3
    have hfin := HQ.out.2.1
    go_wp2
    all_goals go_ret
    all_goals exact ⟨rfl, hfin⟩
  · have hln : l ≠ [] := fun h => hl0 (by rw [← HW.out.2.2.2.2.1.1, h]; rfl)
    have hmore := readM_more _ HW.out.2.1 HW.out.2.2.2.1 l HW.out.2.2.2.2.2.1 hln
    obtain ⟨k2, hk2⟩ := Option.ne_none_iff_exists'.1 hmore
    rw [readM_err _ _ hk2]
    simp only [errV, zMsg, Msg.cells]
    clear hC17 hmore hk2 hln
    have hn0' : ((n : Int) == 0) = false := beq_eq_false_iff_ne.2 (by omega)
    obtain ⟨W17, hW17⟩ : ∃ X, X = w17.alloc (.cells #[.int .i64 0, .int .u32 0, .int .u32 0, .int .u32 0, .int .u32 0, .int .i64 0, .int .i64 0, .bool false, .slice A17 n17 c17] 56) := ⟨_, rfl⟩
    have hb18 : Below w17.heap.size w17 W17 := by rw [hW17]; exact below_alloc (Below.refl _ _) _
    have hh := blk_below HQ.out.1 hb18
    have hB := reach_to' HQ.out.2.1 HQ.out.2.1.size hb18
    have hC3 := Kd.C_below HQ.out.2.2 hb18
    clear HQ hb18
    have HQ := Aside0.mk (And.intro hh (And.intro hB hC3))
    clear hh hB hC3
    have HX := Aside0.mk hW17
    clear hW17
    go_wp2_with (rw [← HX.out])
    clear HX
    refine (is_sum E W17 (HW.out.1.below HQ.out.2.1)).mono ?_
    rintro e w18 ⟨rfl, hb18⟩
    have hh := blk_below HQ.out.1 hb18
    have hB := reach_to' HQ.out.2.1 HQ.out.2.1.size hb18
    have hC3 := Kd.C_below HQ.out.2.2 hb18
    clear HQ hb18
    have HQ := Aside0.mk (And.intro hh (And.intro hB hC3))
    clear hh hB hC3
    have hfin := HQ.out.2.1
    go_wp2
    all_goals go_ret
    all_goals exact ⟨rfl, hfin⟩
theorem wireBack_all (E : Nat → Addr) (m : Msg) (bit cut : Int) (A0 A : Option Addr) (n0 n c0 c : Nat) (l : List Int) (w : World) (hE : Errs ordE E w) (hw : m.wf) (h0 : Kd.C (Kd.int .u32) w A0 n0 m.l) (hbit : (Lit.int .i64 bit).wf = true) (hcut : (Lit.int .i64 cut).wf = true) (hC : Kd.C (Kd.int .u8) w A n l) (hby : Byt l) (hle : n ≤ c) :
    Calls Tryd.prog 10 #[.agg (m.cells (.slice A0 n0 c0)), .int .i64 bit, .int .i64 cut, .slice A n c] w fun e w' => e = .returned (.bool true) ∧ Below w.heap.size w w' := by
  cases hv : validL m with
  | some k => exact wireBack_bad E m bit cut A0 A n0 n c0 c l w hE hw h0 k hv
  | none =>
    by_cases hn : n ≤ 40
    · obtain ⟨a1, a2, a3⟩ := validL_none m hv
      exact wireBack_good E m bit cut A0 A n0 n c0 c l w hE hw h0 hv hbit hcut hC hby hle hn _ rfl (by rw [msgL_length m a1]; unfold sizeM; (repeat' split) <;> omega) (by rw [msgL_length m a1]; unfold sizeM; (repeat' split) <;> omega)
    · exact wireBack_long E m bit cut A0 A n0 n c0 c l w hE hw h0 hv hn (Kd.C_max hC)
end Go.Proofs.YtbgbplbkombfjaaDoor
