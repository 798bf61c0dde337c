/- WireFields, kind 3. -/
import Derived.Test.YtbgbplbkombfjaaDoorWFirst
namespace Go.Proofs.YtbgbplbkombfjaaDoor
open Go.RowKit Go.Proofs.YtbgbplbkombfjaaDoorW.PrintWords SumPlain
set_option linter.unusedVariables false
set_option linter.unusedSimpArgs false
attribute [local go_sem] setCell_drewN alloc_drewN
set_option maxHeartbeats 4000000 in
set_option maxRecDepth 100000 in
theorem wfields3 (E : Nat → Addr) (kind what g : Int) (w : World) (hE : Errs wireErrs E w) (hk : kind % 5 = 2) (hkw : (Lit.int .i64 kind).wf = true) (hww : (Lit.int .i64 what).wf = true) (hg : isAd g) :
    Calls Tryd.prog 7 #[.int .i64 kind, .int .i64 what, .int .u32 g] w fun e w' => e = .returned (.bool true) ∧ Below w.heap.size w w' := by
  have hu2 := Tryd.underlying56
  have hu3 := Tryd.underlying53
  obtain ⟨g0, g1⟩ := hg
  have gg0 : 3758096384 ≤ g % 268435456 + 3758096384 := by omega
  have gg1 : g % 268435456 + 3758096384 ≤ 4026531839 := by omega
  have HW := Aside0.mk (And.intro hE (And.intro hk (And.intro hkw (And.intro hww (And.intro gg0 gg1)))))
  clear hE hk hkw hww gg0 gg1
  go_enter Tryd.func7, Tryd.ntmps7
  go_wp2_with fail
  refine (first4_any E w HW.out.1).mono ?_
  rintro e w1 ⟨rfl, hb1⟩
  have HB := Aside0.mk (And.intro hb1 (HW.out.1.below hb1))
  clear hb1
  go_wp2_with fail
  refine (number_any kind 5 w1 (by omega) (by omega) HW.out.2.2.1).mono ?_
  rintro e w2 ⟨rfl, hw2⟩
  obtain rfl := hw2
  rw [HW.out.2.1]
  go_wp2_with fail
  obtain ⟨X, hX⟩ : ∃ X, X = w1.alloc (.cells #[.int .i64 3, .int .u32 5, .int .u32 0, .int .u32 0, .int .u32 (g % 268435456 + 3758096384), .int .i64 0, .int .i64 0, .bool false, .slice none 0 0] 56) := ⟨_, rfl⟩
  rw [← hX]
  have hbX : Below w1.heap.size w1 X := by rw [hX]; exact below_alloc (Below.refl _ _) _
  have hm : X.heap[w1.heap.size]? = some (.cells #[.int .i64 3, .int .u32 5, .int .u32 0, .int .u32 0, .int .u32 (g % 268435456 + 3758096384), .int .i64 0, .int .i64 0, .bool false, .slice none 0 0] 56 (0, 0)) := by rw [hX]; exact heap_alloc_new _ _
  clear hX
  obtain ⟨b, hb⟩ : ∃ b, b = w1.heap.size := ⟨_, rfl⟩
  rw [← hb] at hm ⊢
  have hwf : (⟨3, 5, 0, 0, (g % 268435456 + 3758096384), 0, 0, false, []⟩ : Msg).wf := by have := HW.out.2.2.2.2; simp [Msg.wf, isAd]; try omega
  have hok : (⟨3, 5, 0, 0, (g % 268435456 + 3758096384), 0, 0, false, []⟩ : Msg).ok := by have := HW.out.2.2.2.2; simp [Msg.ok, isNum, isGrp]; try omega
  have hEX := HB.out.2.below hbX
  have hBX : Below b w1 X := by rw [hb]; exact hbX
  refine (wbytes_any E (⟨3, 5, 0, 0, (g % 268435456 + 3758096384), 0, 0, false, []⟩ : Msg) none 0 0 X hEX hwf (C_none32 X)).mono ?_
  rintro e w3 ⟨v, rfl, hR, hb3⟩
  have hv := validL_ok (⟨3, 5, 0, 0, (g % 268435456 + 3758096384), 0, 0, false, []⟩ : Msg) (by simp) (by simp) hok
  rw [hv]
  unfold wbL at hR
  rw [if_pos hv] at hR
  simp only [errV]
  have hl := msgL_length (⟨3, 5, 0, 0, (g % 268435456 + 3758096384), 0, 0, false, []⟩ : Msg) (by simp)
  have hl2 : sizeM (⟨3, 5, 0, 0, (g % 268435456 + 3758096384), 0, 0, false, []⟩ : Msg) = 18 := by simp [sizeM]
  rw [hl2] at hl
  obtain ⟨bb, cc, rfl, _⟩ := R_form hR (by omega)
  rw [hl] at hR ⊢
  have r0 := (R_nat hR hl 0 (by omega)).1
  rw [msgL_kind] at r0
  simp only at r0
  have hm3 := blk_below hm hb3
  have hE3 := hEX.below hb3
  have hB3 : Below w1.heap.size w1 w3 := reach_to hbX hbX.size hb3
  clear hEX hbX hBX hm hR hl hl2 hv hok hwf hb3
  have HM := Aside0.mk (And.intro hm3 (And.intro hE3 (And.intro hB3 hb)))
  clear hm3 hE3 hB3 hb
  have hlt : bb < w3.heap.size := World.block_lt_of_cell? w3 _ r0
  go_wp2_with fail
  refine (number_any what 6 _ (by omega) (by omega) HW.out.2.2.2.1).mono ?_
  rintro e w4 ⟨rfl, hw4⟩
  have hb4 : Below w3.heap.size w3 w4 := by rw [← hw4]; exact below_alloc (Below.refl _ _) _
  clear hw4 r0 hlt
  obtain ⟨hm3, hE3, hB3, hb⟩ := HM.out
  clear HM
  have hm4 := blk_below hm3 hb4
  have hE4 := hE3.below hb4
  have hB4 : Below w1.heap.size w1 w4 := reach_to hB3 hB3.size hb4
  have hblt : b < w4.heap.size := World.block_lt_of_cell? w4 _ ((blk_cell hm4 0).trans rfl)
  obtain ⟨q, hq⟩ : ∃ q, q = what % 6 := ⟨_, rfl⟩
  rw [← hq]
  have hq6 : q = 0 ∨ q = 1 ∨ q = 2 ∨ q = 3 ∨ q = 4 ∨ q = 5 := by omega
  have q0 := (blk_cell hm4 0).trans rfl
  have q1 := (blk_cell hm4 1).trans rfl
  have q2 := (blk_cell hm4 2).trans rfl
  have q3 := (blk_cell hm4 3).trans rfl
  have q4 := (blk_cell hm4 4).trans rfl
  have q5 := (blk_cell hm4 5).trans rfl
  have q6 := (blk_cell hm4 6).trans rfl
  have q7 := (blk_cell hm4 7).trans rfl
  have q8 := (blk_cell hm4 8).trans rfl
  have f0 := blk_frozen hm4
  have HM := Aside0.mk (And.intro hm4 (And.intro hb hB4))
  clear hq hm3 hE3 hB3 hb hb4 hE4 hB4 hm4
  rcases hq6 with rfl | rfl | rfl | rfl | rfl | rfl
  · go_wp2_with fail
    obtain ⟨hm4, hb, hB4⟩ := HM.out
    clear HM
    obtain ⟨X5, hX5⟩ : ∃ X5, X5 = w4.setCell ⟨b, 5, none⟩ (.int .i64 3) := ⟨_, rfl⟩
    rw [← hX5]
    have hm5 : X5.heap[b]? = some (.cells #[.int .i64 3, .int .u32 5, .int .u32 0, .int .u32 0, .int .u32 (g % 268435456 + 3758096384), .int .i64 3, .int .i64 0, .bool false, .slice none 0 0] 56 (0, 0)) := by rw [hX5]; exact (blk_set hm4 5 _).trans rfl
    have hB5 : Below w1.heap.size w1 X5 := by rw [hX5]; exact Below.setCell hB4 (show w1.heap.size ≤ b by omega) _
    have hCC : Kd.C (Kd.int .u32) X5 none 0 [] := C_none32 X5
    clear hX5
    clear q0 q1 q2 q3 q4 q5 q6 q7 q8 f0 hm4 hB4
    have hwf : (⟨3, 5, 0, 0, (g % 268435456 + 3758096384), 3, 0, false, []⟩ : Msg).wf := by have := HW.out.2.2.2.2; simp [Msg.wf, isAd]; try omega
    have hv : validL (⟨3, 5, 0, 0, (g % 268435456 + 3758096384), 3, 0, false, []⟩ : Msg) = some 0 := validL_some _ (by simp) (by simp) (by simp [Msg.ok, isNum, isGrp])
    have hE5 := HB.out.2.below hB5
    refine (wbytes_any E (⟨3, 5, 0, 0, (g % 268435456 + 3758096384), 3, 0, false, []⟩ : Msg) none 0 0 X5 hE5 hwf hCC).mono ?_
    rintro e w6 ⟨v2, rfl, hR2, hb6⟩
    rw [hv]
    simp only [errV]
    clear hR2
    have hm6 := blk_below hm5 hb6
    have hE6 := hE5.below hb6
    have hB6 : Below w1.heap.size w1 w6 := reach_to hB5 hB5.size hb6
    have hC6 := Kd.C_below hCC hb6
    clear hm5 hE5 hB5 hCC hb6
    have q0 := (blk_cell hm6 0).trans rfl
    have q1 := (blk_cell hm6 1).trans rfl
    have q2 := (blk_cell hm6 2).trans rfl
    have q3 := (blk_cell hm6 3).trans rfl
    have q4 := (blk_cell hm6 4).trans rfl
    have q5 := (blk_cell hm6 5).trans rfl
    have q6 := (blk_cell hm6 6).trans rfl
    have q7 := (blk_cell hm6 7).trans rfl
    have q8 := (blk_cell hm6 8).trans rfl
    have HC := Aside0.mk (And.intro hE6 (And.intro hwf (And.intro hC6 (And.intro hv hB6))))
    clear hE6 hwf hC6 hv hB6 hm6 hb
    go_wp2_with fail
    refine (valid_any E (⟨3, 5, 0, 0, (g % 268435456 + 3758096384), 3, 0, false, []⟩ : Msg) none 0 0 w6 HC.out.1 HC.out.2.1 HC.out.2.2.1).mono ?_
    rintro e w7 ⟨rfl, hb7⟩
    rw [HC.out.2.2.2.1]
    simp only [errV]
    have hB7 := reach_to' HB.out.1 HB.out.1.size (reach_to' HC.out.2.2.2.2 HC.out.2.2.2.2.size hb7)
    clear q0 q1 q2 q3 q4 q5 q6 q7 q8 hb7
    go_wp2
    go_ret
    exact ⟨rfl, hB7⟩
  · go_wp2_with fail
    obtain ⟨hm4, hb, hB4⟩ := HM.out
    clear HM
    obtain ⟨X5, hX5⟩ : ∃ X5, X5 = w4.setCell ⟨b, 6, none⟩ (.int .i64 3) := ⟨_, rfl⟩
    rw [← hX5]
    have hm5 : X5.heap[b]? = some (.cells #[.int .i64 3, .int .u32 5, .int .u32 0, .int .u32 0, .int .u32 (g % 268435456 + 3758096384), .int .i64 0, .int .i64 3, .bool false, .slice none 0 0] 56 (0, 0)) := by rw [hX5]; exact (blk_set hm4 6 _).trans rfl
    have hB5 : Below w1.heap.size w1 X5 := by rw [hX5]; exact Below.setCell hB4 (show w1.heap.size ≤ b by omega) _
    have hCC : Kd.C (Kd.int .u32) X5 none 0 [] := C_none32 X5
    clear hX5
    clear q0 q1 q2 q3 q4 q5 q6 q7 q8 f0 hm4 hB4
    have hwf : (⟨3, 5, 0, 0, (g % 268435456 + 3758096384), 0, 3, false, []⟩ : Msg).wf := by have := HW.out.2.2.2.2; simp [Msg.wf, isAd]; try omega
    have hv : validL (⟨3, 5, 0, 0, (g % 268435456 + 3758096384), 0, 3, false, []⟩ : Msg) = none := validL_ok _ (by simp) (by simp) (by have := HW.out.2.2.2.2; simp [Msg.ok, isNum, isGrp]; try omega)
    have hE5 := HB.out.2.below hB5
    refine (wbytes_any E (⟨3, 5, 0, 0, (g % 268435456 + 3758096384), 0, 3, false, []⟩ : Msg) none 0 0 X5 hE5 hwf hCC).mono ?_
    rintro e w6 ⟨v2, rfl, hR2, hb6⟩
    rw [hv]
    simp only [errV]
    clear hR2
    have hm6 := blk_below hm5 hb6
    have hE6 := hE5.below hb6
    have hB6 : Below w1.heap.size w1 w6 := reach_to hB5 hB5.size hb6
    have hC6 := Kd.C_below hCC hb6
    clear hm5 hE5 hB5 hCC hb6
    have q0 := (blk_cell hm6 0).trans rfl
    have q1 := (blk_cell hm6 1).trans rfl
    have q2 := (blk_cell hm6 2).trans rfl
    have q3 := (blk_cell hm6 3).trans rfl
    have q4 := (blk_cell hm6 4).trans rfl
    have q5 := (blk_cell hm6 5).trans rfl
    have q6 := (blk_cell hm6 6).trans rfl
    have q7 := (blk_cell hm6 7).trans rfl
    have q8 := (blk_cell hm6 8).trans rfl
    have HC := Aside0.mk (And.intro hE6 (And.intro hwf (And.intro hC6 (And.intro hv hB6))))
    clear hE6 hwf hC6 hv hB6 hm6 hb
    go_wp2_with fail
    refine (valid_any E (⟨3, 5, 0, 0, (g % 268435456 + 3758096384), 0, 3, false, []⟩ : Msg) none 0 0 w6 HC.out.1 HC.out.2.1 HC.out.2.2.1).mono ?_
    rintro e w7 ⟨rfl, hb7⟩
    rw [HC.out.2.2.2.1]
    simp only [errV]
    have hB7 := reach_to' HB.out.1 HB.out.1.size (reach_to' HC.out.2.2.2.2 HC.out.2.2.2.2.size hb7)
    clear q0 q1 q2 q3 q4 q5 q6 q7 q8 hb7
    go_wp2
    go_ret
    exact ⟨rfl, hB7⟩
  · go_wp2_with fail
    obtain ⟨hm4, hb, hB4⟩ := HM.out
    clear HM
    obtain ⟨X5, hX5⟩ : ∃ X5, X5 = w4.setCell ⟨b, 2, none⟩ (.int .u32 3) := ⟨_, rfl⟩
    rw [← hX5]
    have hm5 : X5.heap[b]? = some (.cells #[.int .i64 3, .int .u32 5, .int .u32 3, .int .u32 0, .int .u32 (g % 268435456 + 3758096384), .int .i64 0, .int .i64 0, .bool false, .slice none 0 0] 56 (0, 0)) := by rw [hX5]; exact (blk_set hm4 2 _).trans rfl
    have hB5 : Below w1.heap.size w1 X5 := by rw [hX5]; exact Below.setCell hB4 (show w1.heap.size ≤ b by omega) _
    have hCC : Kd.C (Kd.int .u32) X5 none 0 [] := C_none32 X5
    clear hX5
    clear q0 q1 q2 q3 q4 q5 q6 q7 q8 f0 hm4 hB4
    have hwf : (⟨3, 5, 3, 0, (g % 268435456 + 3758096384), 0, 0, false, []⟩ : Msg).wf := by have := HW.out.2.2.2.2; simp [Msg.wf, isAd]; try omega
    have hv : validL (⟨3, 5, 3, 0, (g % 268435456 + 3758096384), 0, 0, false, []⟩ : Msg) = some 0 := validL_some _ (by simp) (by simp) (by simp [Msg.ok, isNum, isGrp])
    have hE5 := HB.out.2.below hB5
    refine (wbytes_any E (⟨3, 5, 3, 0, (g % 268435456 + 3758096384), 0, 0, false, []⟩ : Msg) none 0 0 X5 hE5 hwf hCC).mono ?_
    rintro e w6 ⟨v2, rfl, hR2, hb6⟩
    rw [hv]
    simp only [errV]
    clear hR2
    have hm6 := blk_below hm5 hb6
    have hE6 := hE5.below hb6
    have hB6 : Below w1.heap.size w1 w6 := reach_to hB5 hB5.size hb6
    have hC6 := Kd.C_below hCC hb6
    clear hm5 hE5 hB5 hCC hb6
    have q0 := (blk_cell hm6 0).trans rfl
    have q1 := (blk_cell hm6 1).trans rfl
    have q2 := (blk_cell hm6 2).trans rfl
    have q3 := (blk_cell hm6 3).trans rfl
    have q4 := (blk_cell hm6 4).trans rfl
    have q5 := (blk_cell hm6 5).trans rfl
    have q6 := (blk_cell hm6 6).trans rfl
    have q7 := (blk_cell hm6 7).trans rfl
    have q8 := (blk_cell hm6 8).trans rfl
    have HC := Aside0.mk (And.intro hE6 (And.intro hwf (And.intro hC6 (And.intro hv hB6))))
    clear hE6 hwf hC6 hv hB6 hm6 hb
    go_wp2_with fail
    refine (valid_any E (⟨3, 5, 3, 0, (g % 268435456 + 3758096384), 0, 0, false, []⟩ : Msg) none 0 0 w6 HC.out.1 HC.out.2.1 HC.out.2.2.1).mono ?_
    rintro e w7 ⟨rfl, hb7⟩
    rw [HC.out.2.2.2.1]
    simp only [errV]
    have hB7 := reach_to' HB.out.1 HB.out.1.size (reach_to' HC.out.2.2.2.2 HC.out.2.2.2.2.size hb7)
    clear q0 q1 q2 q3 q4 q5 q6 q7 q8 hb7
    go_wp2
    go_ret
    exact ⟨rfl, hB7⟩
  · go_wp2_with fail
    obtain ⟨hm4, hb, hB4⟩ := HM.out
    clear HM
    obtain ⟨X5, hX5⟩ : ∃ X5, X5 = w4.setCell ⟨b, 3, none⟩ (.int .u32 3) := ⟨_, rfl⟩
    rw [← hX5]
    have hm5 : X5.heap[b]? = some (.cells #[.int .i64 3, .int .u32 5, .int .u32 0, .int .u32 3, .int .u32 (g % 268435456 + 3758096384), .int .i64 0, .int .i64 0, .bool false, .slice none 0 0] 56 (0, 0)) := by rw [hX5]; exact (blk_set hm4 3 _).trans rfl
    have hB5 : Below w1.heap.size w1 X5 := by rw [hX5]; exact Below.setCell hB4 (show w1.heap.size ≤ b by omega) _
    have hCC : Kd.C (Kd.int .u32) X5 none 0 [] := C_none32 X5
    clear hX5
    clear q0 q1 q2 q3 q4 q5 q6 q7 q8 f0 hm4 hB4
    have hwf : (⟨3, 5, 0, 3, (g % 268435456 + 3758096384), 0, 0, false, []⟩ : Msg).wf := by have := HW.out.2.2.2.2; simp [Msg.wf, isAd]; try omega
    have hv : validL (⟨3, 5, 0, 3, (g % 268435456 + 3758096384), 0, 0, false, []⟩ : Msg) = none := validL_ok _ (by simp) (by simp) (by have := HW.out.2.2.2.2; simp [Msg.ok, isNum, isGrp]; try omega)
    have hE5 := HB.out.2.below hB5
    refine (wbytes_any E (⟨3, 5, 0, 3, (g % 268435456 + 3758096384), 0, 0, false, []⟩ : Msg) none 0 0 X5 hE5 hwf hCC).mono ?_
    rintro e w6 ⟨v2, rfl, hR2, hb6⟩
    rw [hv]
    simp only [errV]
    clear hR2
    have hm6 := blk_below hm5 hb6
    have hE6 := hE5.below hb6
    have hB6 : Below w1.heap.size w1 w6 := reach_to hB5 hB5.size hb6
    have hC6 := Kd.C_below hCC hb6
    clear hm5 hE5 hB5 hCC hb6
    have q0 := (blk_cell hm6 0).trans rfl
    have q1 := (blk_cell hm6 1).trans rfl
    have q2 := (blk_cell hm6 2).trans rfl
    have q3 := (blk_cell hm6 3).trans rfl
    have q4 := (blk_cell hm6 4).trans rfl
    have q5 := (blk_cell hm6 5).trans rfl
    have q6 := (blk_cell hm6 6).trans rfl
    have q7 := (blk_cell hm6 7).trans rfl
    have q8 := (blk_cell hm6 8).trans rfl
    have HC := Aside0.mk (And.intro hE6 (And.intro hwf (And.intro hC6 (And.intro hv hB6))))
    clear hE6 hwf hC6 hv hB6 hm6 hb
    go_wp2_with fail
    refine (valid_any E (⟨3, 5, 0, 3, (g % 268435456 + 3758096384), 0, 0, false, []⟩ : Msg) none 0 0 w6 HC.out.1 HC.out.2.1 HC.out.2.2.1).mono ?_
    rintro e w7 ⟨rfl, hb7⟩
    rw [HC.out.2.2.2.1]
    simp only [errV]
    have hB7 := reach_to' HB.out.1 HB.out.1.size (reach_to' HC.out.2.2.2.2 HC.out.2.2.2.2.size hb7)
    clear q0 q1 q2 q3 q4 q5 q6 q7 q8 hb7
    go_wp2
    go_ret
    exact ⟨rfl, hB7⟩
  · go_wp2_with fail
    obtain ⟨hm4, hb, hB4⟩ := HM.out
    clear HM
    obtain ⟨X5, hX5⟩ : ∃ X5, X5 = w4.setCell ⟨b, 7, none⟩ (.bool true) := ⟨_, rfl⟩
    rw [← hX5]
    have hm5 : X5.heap[b]? = some (.cells #[.int .i64 3, .int .u32 5, .int .u32 0, .int .u32 0, .int .u32 (g % 268435456 + 3758096384), .int .i64 0, .int .i64 0, .bool true, .slice none 0 0] 56 (0, 0)) := by rw [hX5]; exact (blk_set hm4 7 _).trans rfl
    have hB5 : Below w1.heap.size w1 X5 := by rw [hX5]; exact Below.setCell hB4 (show w1.heap.size ≤ b by omega) _
    have hCC : Kd.C (Kd.int .u32) X5 none 0 [] := C_none32 X5
    clear hX5
    clear q0 q1 q2 q3 q4 q5 q6 q7 q8 f0 hm4 hB4
    have hwf : (⟨3, 5, 0, 0, (g % 268435456 + 3758096384), 0, 0, true, []⟩ : Msg).wf := by have := HW.out.2.2.2.2; simp [Msg.wf, isAd]; try omega
    have hv : validL (⟨3, 5, 0, 0, (g % 268435456 + 3758096384), 0, 0, true, []⟩ : Msg) = some 0 := validL_some _ (by simp) (by simp) (by simp [Msg.ok, isNum, isGrp])
    have hE5 := HB.out.2.below hB5
    refine (wbytes_any E (⟨3, 5, 0, 0, (g % 268435456 + 3758096384), 0, 0, true, []⟩ : Msg) none 0 0 X5 hE5 hwf hCC).mono ?_
    rintro e w6 ⟨v2, rfl, hR2, hb6⟩
    rw [hv]
    simp only [errV]
    clear hR2
    have hm6 := blk_below hm5 hb6
    have hE6 := hE5.below hb6
    have hB6 : Below w1.heap.size w1 w6 := reach_to hB5 hB5.size hb6
    have hC6 := Kd.C_below hCC hb6
    clear hm5 hE5 hB5 hCC hb6
    have q0 := (blk_cell hm6 0).trans rfl
    have q1 := (blk_cell hm6 1).trans rfl
    have q2 := (blk_cell hm6 2).trans rfl
    have q3 := (blk_cell hm6 3).trans rfl
    have q4 := (blk_cell hm6 4).trans rfl
    have q5 := (blk_cell hm6 5).trans rfl
    have q6 := (blk_cell hm6 6).trans rfl
    have q7 := (blk_cell hm6 7).trans rfl
    have q8 := (blk_cell hm6 8).trans rfl
    have HC := Aside0.mk (And.intro hE6 (And.intro hwf (And.intro hC6 (And.intro hv hB6))))
    clear hE6 hwf hC6 hv hB6 hm6 hb
    go_wp2_with fail
    refine (valid_any E (⟨3, 5, 0, 0, (g % 268435456 + 3758096384), 0, 0, true, []⟩ : Msg) none 0 0 w6 HC.out.1 HC.out.2.1 HC.out.2.2.1).mono ?_
    rintro e w7 ⟨rfl, hb7⟩
    rw [HC.out.2.2.2.1]
    simp only [errV]
    have hB7 := reach_to' HB.out.1 HB.out.1.size (reach_to' HC.out.2.2.2.2 HC.out.2.2.2.2.size hb7)
    clear q0 q1 q2 q3 q4 q5 q6 q7 q8 hb7
    go_wp2
    go_ret
    exact ⟨rfl, hB7⟩
  · go_wp2_with fail
    obtain ⟨hm4, hb, hB4⟩ := HM.out
    clear HM
    obtain ⟨X5, hX5⟩ : ∃ X5, X5 = (w4.setCell ⟨b, 8, none⟩ (.slice (some ⟨w4.heap.size, 0, none⟩) 2 2)).alloc (.cells #[.int .u32 1, .int .u32 2] 23) := ⟨_, rfl⟩
    rw [← hX5]
    have hm5 : X5.heap[b]? = some (.cells #[.int .i64 3, .int .u32 5, .int .u32 0, .int .u32 0, .int .u32 (g % 268435456 + 3758096384), .int .i64 0, .int .i64 0, .bool false, .slice (some ⟨w4.heap.size, 0, none⟩) 2 2] 56 (0, 0)) := by rw [hX5]; exact blk_alloc ((blk_set hm4 8 _).trans rfl) _
    have hB5 : Below w1.heap.size w1 X5 := by rw [hX5]; exact below_alloc (Below.setCell hB4 (show w1.heap.size ≤ b by omega) _) _
    have hCC : Kd.C (Kd.int .u32) X5 (some ⟨w4.heap.size, 0, none⟩) 2 [1, 2] := blk_C .u32 [1, 2] (by simp) (by rw [hX5]; exact new_at _ _ _ (by simp [World.setCell]))
    clear hX5
    clear q0 q1 q2 q3 q4 q5 q6 q7 q8 f0 hm4 hB4
    have hwf : (⟨3, 5, 0, 0, (g % 268435456 + 3758096384), 0, 0, false, [1, 2]⟩ : Msg).wf := by have := HW.out.2.2.2.2; simp [Msg.wf, isAd]; try omega
    have hv : validL (⟨3, 5, 0, 0, (g % 268435456 + 3758096384), 0, 0, false, [1, 2]⟩ : Msg) = some 0 := validL_some _ (by simp) (by simp) (by simp [Msg.ok, isNum, isGrp])
    have hE5 := HB.out.2.below hB5
    refine (wbytes_any E (⟨3, 5, 0, 0, (g % 268435456 + 3758096384), 0, 0, false, [1, 2]⟩ : Msg) (some ⟨w4.heap.size, 0, none⟩) 2 2 X5 hE5 hwf hCC).mono ?_
    rintro e w6 ⟨v2, rfl, hR2, hb6⟩
    rw [hv]
    simp only [errV]
    clear hR2
    have hm6 := blk_below hm5 hb6
    have hE6 := hE5.below hb6
    have hB6 : Below w1.heap.size w1 w6 := reach_to hB5 hB5.size hb6
    have hC6 := Kd.C_below hCC hb6
    clear hm5 hE5 hB5 hCC hb6
    have q0 := (blk_cell hm6 0).trans rfl
    have q1 := (blk_cell hm6 1).trans rfl
    have q2 := (blk_cell hm6 2).trans rfl
    have q3 := (blk_cell hm6 3).trans rfl
    have q4 := (blk_cell hm6 4).trans rfl
    have q5 := (blk_cell hm6 5).trans rfl
    have q6 := (blk_cell hm6 6).trans rfl
    have q7 := (blk_cell hm6 7).trans rfl
    have q8 := (blk_cell hm6 8).trans rfl
    have HC := Aside0.mk (And.intro hE6 (And.intro hwf (And.intro hC6 (And.intro hv hB6))))
    clear hE6 hwf hC6 hv hB6 hm6 hb
    go_wp2_with fail
    refine (valid_any E (⟨3, 5, 0, 0, (g % 268435456 + 3758096384), 0, 0, false, [1, 2]⟩ : Msg) (some ⟨w4.heap.size, 0, none⟩) 2 2 w6 HC.out.1 HC.out.2.1 HC.out.2.2.1).mono ?_
    rintro e w7 ⟨rfl, hb7⟩
    rw [HC.out.2.2.2.1]
    simp only [errV]
    have hB7 := reach_to' HB.out.1 HB.out.1.size (reach_to' HC.out.2.2.2.2 HC.out.2.2.2.2.size hb7)
    clear q0 q1 q2 q3 q4 q5 q6 q7 q8 hb7
    go_wp2
    go_ret
    exact ⟨rfl, hB7⟩
end Go.Proofs.YtbgbplbkombfjaaDoor
