/- WireReads: the walk of the law. -/
import Derived.Test.YtbgbplbkombfjaaDoorWReadA
import Derived.Test.YtbgbplbkombfjaaDoorWSame
namespace Go.Proofs.YtbgbplbkombfjaaDoor
open Go.RowKit Go.Proofs.YtbgbplbkombfjaaDoorW.PrintWords SumPlain
set_option linter.unusedVariables false
set_option linter.unusedSimpArgs false
attribute [local go_sem] setCell_drewN alloc_drewN
theorem reads_long (E : Nat → Addr) (A : Option Addr) (n c : Nat) (w : World) (hE : Errs wireErrs E w) (hn : ¬ n ≤ 200) (hmx : n ≤ 9223372036854775807) :
    Calls Tryd.prog 11 #[.slice A n c] w fun e w' => e = .returned (.bool true) ∧ Below w.heap.size w w' := by
  have HE := Aside0.mk hE
  clear hE
  go_enter Tryd.func11, Tryd.ntmps11
  go_wp2_with fail
  refine (first4_any E w HE.out).mono ?_
  rintro e w2 ⟨rfl, hb2⟩
  go_wp2
  go_ret
  exact ⟨rfl, hb2⟩
set_option maxHeartbeats 2000000 in
set_option maxRecDepth 100000 in
theorem reads_bad (E : Nat → Addr) (A : Option Addr) (n c : Nat) (l : List Int) (w : World) (k : Nat) (hE : Errs readErrs E w) (hC : Kd.C (Kd.int .u8) w A n l) (hby : Byt l) (hle : n ≤ c) (hn : n ≤ 200) (hl : l.length = n) (hR : readM l = (zMsg, some k)) :
    Calls Tryd.prog 11 #[.slice A n c] w fun e w' => e = .returned (.bool true) ∧ Below w.heap.size w w' := by
  have hu2 := Tryd.underlying56
  have HE := Aside0.mk (And.intro hE (And.intro hC (And.intro hby (And.intro hR hl))))
  clear hE hC hby hR hl
  go_enter Tryd.func11, Tryd.ntmps11
  go_wp2_with fail
  refine (first4_any E w (HE.out.1.sub read_wire)).mono ?_
  rintro e w2 ⟨rfl, hb2⟩
  have HB := Aside0.mk hb2
  clear hb2
  go_wp2_with fail
  refine (read_any E A n c l w2 (HE.out.1.below HB.out) (Kd.C_below HE.out.2.1 HB.out) HE.out.2.2.1 hle (by rw [HE.out.2.2.2.2]; omega)).mono ?_
  rintro e w3 ⟨A1, n1, c1, rfl, hC1, hb3⟩
  rw [HE.out.2.2.2.1] at hC1 ⊢
  simp only [errV, zMsg, Msg.cells]
  obtain rfl : 0 = n1 := hC1.1
  have HB3 := Aside0.mk (reach_to' HB.out HB.out.size hb3)
  clear hC1 hb3
  go_wp2
  go_ret
  exact ⟨rfl, reach_to' HB3.out HB3.out.size (below_alloc (Below.refl _ _) _)⟩
set_option maxHeartbeats 4000000 in
set_option maxRecDepth 100000 in
theorem reads_good (E : Nat → Addr) (A : Option Addr) (n c : Nat) (l : List Int) (w : World) (m : Msg) (hE : Errs readErrs E w) (hC : Kd.C (Kd.int .u8) w A n l) (hby : Byt l) (hle : n ≤ c) (hn : n ≤ 200) (hl : l.length = n) (hR : readM l = (m, none)) (hw : m.wf) (hv : validL m = none) (hlen : (msgL m).length = n) (hat : ∀ i, i ≠ 2 → i ≠ 3 → (msgL m).getD i 0 = l.getD i 0) :
    Calls Tryd.prog 11 #[.slice A n c] w fun e w' => e = .returned (.bool true) ∧ Below w.heap.size w w' := by
  have hu2 := Tryd.underlying56
  obtain ⟨x0, x1, x2, x3, x4, x5, x6, x7, lx⟩ := m
  have HW := Aside0.mk (And.intro hE (And.intro hC (And.intro hby (And.intro hR (And.intro hl (And.intro hw (And.intro hv (And.intro hlen hat))))))))
  clear hE hC hby hR hl hw hv hlen hat
  go_enter Tryd.func11, Tryd.ntmps11
  go_wp2_with fail
  refine (first4_any E w (HW.out.1.sub read_wire)).mono ?_
  rintro e w2 ⟨rfl, hb2⟩
  have HB := Aside0.mk hb2
  clear hb2
  go_wp2_with fail
  refine (read_any E A n c l w2 (HW.out.1.below HB.out) (Kd.C_below HW.out.2.1 HB.out) HW.out.2.2.1 hle (by rw [HW.out.2.2.2.2.1]; omega)).mono ?_
  rintro e w3 ⟨A1, n1, c1, rfl, hC1, hb3⟩
  rw [HW.out.2.2.2.1] at hC1 ⊢
  simp only [errV, Msg.cells]
  have HB3 := Aside0.mk (And.intro (reach_to' HB.out HB.out.size hb3) hC1)
  clear hC1 hb3 HB
  go_wp2_with fail
  obtain ⟨W4, hW4⟩ : ∃ W4, W4 = w3.alloc (.cells #[.int .i64 x0, .int .u32 x1, .int .u32 x2, .int .u32 x3, .int .u32 x4, .int .i64 x5, .int .i64 x6, .bool x7, .slice A1 n1 c1] 56) := ⟨_, rfl⟩
  rw [← hW4]
  have hb4 : Below w3.heap.size w3 W4 := by rw [hW4]; exact below_alloc (Below.refl _ _) _
  have hh : W4.heap[w3.heap.size]? = some (.cells #[.int .i64 x0, .int .u32 x1, .int .u32 x2, .int .u32 x3, .int .u32 x4, .int .i64 x5, .int .i64 x6, .bool x7, .slice A1 n1 c1] 56 (0, 0)) := by rw [hW4]; exact heap_alloc_new w3 _
  have hB4 := reach_to' HB3.out.1 HB3.out.1.size hb4
  have hC4 := Kd.C_below HB3.out.2 hb4
  obtain ⟨g, hg⟩ : ∃ g, g = w3.heap.size := ⟨_, rfl⟩
  rw [← hg] at hh ⊢
  clear hW4 hb4 hg HB3
  have hE4 := (HW.out.1.below hB4).sub read_wire
  refine (wbytes_any E ⟨x0, x1, x2, x3, x4, x5, x6, x7, lx⟩ A1 n1 c1 W4 hE4 HW.out.2.2.2.2.2.1 hC4).mono ?_
  rintro e w5 ⟨v5, rfl, hR5, hb5⟩
  have hwb : wbL ⟨x0, x1, x2, x3, x4, x5, x6, x7, lx⟩ = msgL ⟨x0, x1, x2, x3, x4, x5, x6, x7, lx⟩ := by unfold wbL; rw [HW.out.2.2.2.2.2.2.1, if_pos rfl]
  rw [hwb] at hR5
  rw [HW.out.2.2.2.2.2.2.1]
  simp only [errV]
  obtain ⟨A5, c5, rfl, hle5, hC5⟩ := Kd.R_reads hR5
  rw [HW.out.2.2.2.2.2.2.2.1] at hle5 hC5 ⊢
  have hh := blk_below hh hb5
  have hB5 := reach_to' hB4 hB4.size hb5
  have hE5 := hE4.below hb5
  have hC1 := Kd.C_below hC4 hb5
  clear hwb hR5 hb5 hB4 hE4 hC4
  have p0 := (blk_cell hh 0).trans rfl
  have p1 := (blk_cell hh 1).trans rfl
  have p2 := (blk_cell hh 2).trans rfl
  have p3 := (blk_cell hh 3).trans rfl
  have p4 := (blk_cell hh 4).trans rfl
  have p5 := (blk_cell hh 5).trans rfl
  have p6 := (blk_cell hh 6).trans rfl
  have p7 := (blk_cell hh 7).trans rfl
  have p8 := (blk_cell hh 8).trans rfl
  have HQ := Aside0.mk (And.intro hh (And.intro hB5 (And.intro hE5 (And.intro hC1 (And.intro hC5 hle5)))))
  clear hh hB5 hE5 hC1 hC5
  go_wp2_with fail
  clear p0 p1 p2 p3 p4 p5 p6 p7 p8
  obtain ⟨hh, hB5, hE5, hC1, hC5, hle5⟩ := HQ.out
  clear HQ
  refine (valid_any E ⟨x0, x1, x2, x3, x4, x5, x6, x7, lx⟩ A1 n1 c1 w5 hE5 HW.out.2.2.2.2.2.1 hC1).mono ?_
  rintro e w6 ⟨rfl, hb6⟩
  rw [HW.out.2.2.2.2.2.2.1]
  simp only [errV]
  have hh := blk_below hh hb6
  have hB6 := reach_to' hB5 hB5.size hb6
  have hC1 := Kd.C_below hC1 hb6
  have hC6 := Kd.C_below hC5 hb6
  have hC0 := Kd.C_below HW.out.2.1 hB6
  clear hb6 hB5 hE5 hC5
  have HQ := Aside0.mk (And.intro hh (And.intro hB6 (And.intro hC1 (And.intro hC6 hC0))))
  clear hh hB6 hC1 hC6 hC0
  go_wp2_with fail
  go_loopg [8] n (fun k v8 wr => ∃ j : Nat, j + k = n ∧ v8 = .int .i64 j ∧ Drawn0 w6 wr)
  case atStart => exact ⟨0, by omega, rfl, Drawn0.refl _⟩
  case round =>
    obtain ⟨j, hj, rfl, ⟨m1, rfl⟩⟩ := hrel
    by_cases hlt : j < n
    · obtain ⟨ad0, y0, rfl, hc0, HX0⟩ := at_nat HQ.out.2.2.2.2 j hlt
      obtain ⟨ad1, y1, rfl, hc1, HX1⟩ := at_nat HQ.out.2.2.2.1 j hlt
      by_cases j2 : j = 2
      · have d2 : ((j : Int) != 2) = false := bne_eq_false_iff_eq.2 (by omega)
        go_wp2
        repeat (go_quiet (fail); try go_wp2)
        go_roundg (gk - 1)
        case rel => exact ⟨j + 1, by omega, by go_num, by repeat (first | exact Drawn0.refl _ | apply Drawn0.step)⟩
        case measure => omega
      · have d2 : ((j : Int) != 2) = true := bne_iff_ne.2 (by omega)
        by_cases j3 : j = 3
        · have d3 : ((j : Int) != 3) = false := bne_eq_false_iff_eq.2 (by omega)
          go_wp2
          repeat (go_quiet (fail); try go_wp2)
          go_roundg (gk - 1)
          case rel => exact ⟨j + 1, by omega, by go_num, by repeat (first | exact Drawn0.refl _ | apply Drawn0.step)⟩
          case measure => omega
        · have d3 : ((j : Int) != 3) = true := bne_iff_ne.2 (by omega)
          obtain rfl : y0 = y1 := by rw [HX0.out, HX1.out]; exact (HW.out.2.2.2.2.2.2.2.2 j j2 j3).symm
          go_wp2
          repeat (go_quiet (fail); try go_wp2)
          go_roundg (gk - 1)
          case rel => exact ⟨j + 1, by omega, by go_num, by repeat (first | exact Drawn0.refl _ | apply Drawn0.step)⟩
          case measure => omega
    · obtain rfl : n = j := by omega
      have hD : Below w6.heap.size w6 (w6.drewN m1) := pw_below_drewN (Below.refl _ _) _
      obtain ⟨W7, hW7⟩ : ∃ W7, W7 = w6.drewN m1 := ⟨_, rfl⟩
      rw [← hW7] at hD ⊢
      clear hW7
      obtain ⟨hh, hB6, hC1, hC6, hC0⟩ := HQ.out
      have hh := blk_below hh hD
      have hB7 := reach_to' hB6 hB6.size hD
      have hC1 := Kd.C_below hC1 hD
      have hC7 := Kd.C_below hC6 hD
      clear hD hB6 hC6 hC0 HQ
      have HQ := Aside0.mk (And.intro hh (And.intro hB7 (And.intro hC1 hC7)))
      clear hh hB7 hC1 hC7
      go_wp2_with fail
      refine (read_any E A5 n c5 (msgL ⟨x0, x1, x2, x3, x4, x5, x6, x7, lx⟩) W7 (HW.out.1.below HQ.out.2.1) HQ.out.2.2.2 (msgL_byt _ HW.out.2.2.2.2.2.1 HW.out.2.2.2.2.2.2.1) hle5 (by rw [HW.out.2.2.2.2.2.2.2.1]; omega)).mono ?_
      rintro e w8 ⟨A8, n8, c8, rfl, hC8, hb8⟩
      rw [readM_msgL _ HW.out.2.2.2.2.2.1 HW.out.2.2.2.2.2.2.1] at hC8 ⊢
      simp only [errV, Msg.cells]
      obtain ⟨W9, hW9⟩ : ∃ W9, W9 = w8.alloc (.cells #[.int .i64 x0, .int .u32 x1, .int .u32 x2, .int .u32 x3, .int .u32 x4, .int .i64 x5, .int .i64 x6, .bool x7, .slice A8 n8 c8] 56) := ⟨_, rfl⟩
      have hb9 : Below w8.heap.size w8 W9 := by rw [hW9]; exact below_alloc (Below.refl _ _) _
      have hh9 : W9.heap[w8.heap.size]? = some (.cells #[.int .i64 x0, .int .u32 x1, .int .u32 x2, .int .u32 x3, .int .u32 x4, .int .i64 x5, .int .i64 x6, .bool x7, .slice A8 n8 c8] 56 (0, 0)) := by rw [hW9]; exact heap_alloc_new w8 _
      obtain ⟨hh, hB7, hC1, hC7⟩ := HQ.out
      have hh := blk_below (blk_below hh hb8) hb9
      have hB9 := reach_to' (reach_to' hB7 hB7.size hb8) (Nat.le_trans hB7.size hb8.size) hb9
      have hC1 := Kd.C_below (Kd.C_below hC1 hb8) hb9
      have hC9 := Kd.C_below hC8 hb9
      have HX := Aside0.mk hW9
      clear hb8 hb9 hB7 hC7 hC8 hW9 HQ
      have p0 := (blk_cell hh 0).trans rfl
      have p1 := (blk_cell hh 1).trans rfl
      have p2 := (blk_cell hh 2).trans rfl
      have p3 := (blk_cell hh 3).trans rfl
      have p4 := (blk_cell hh 4).trans rfl
      have p5 := (blk_cell hh 5).trans rfl
      have p6 := (blk_cell hh 6).trans rfl
      have p7 := (blk_cell hh 7).trans rfl
      have p8 := (blk_cell hh 8).trans rfl
      have q0 := (blk_cell hh9 0).trans rfl
      have q1 := (blk_cell hh9 1).trans rfl
      have q2 := (blk_cell hh9 2).trans rfl
      have q3 := (blk_cell hh9 3).trans rfl
      have q4 := (blk_cell hh9 4).trans rfl
      have q5 := (blk_cell hh9 5).trans rfl
      have q6 := (blk_cell hh9 6).trans rfl
      have q7 := (blk_cell hh9 7).trans rfl
      have q8 := (blk_cell hh9 8).trans rfl
      have HQ := Aside0.mk (And.intro hh (And.intro hh9 (And.intro hB9 (And.intro hC1 hC9))))
      clear hh hh9 hB9 hC1 hC9
      have hlx : lx.length ≤ 4 := (valid_ok _ HW.out.2.2.2.2.2.2.1).2.1
      have HLX := Aside0.mk hlx
      clear hlx
      go_wp2_with (rw [← HX.out])
      refine (wsame_any ⟨x0, x1, x2, x3, x4, x5, x6, x7, lx⟩ ⟨x0, x1, x2, x3, x4, x5, x6, x7, lx⟩ A1 A8 n1 n8 c1 c8 W9 HQ.out.2.2.2.1 HQ.out.2.2.2.2 (by have := HLX.out; show lx.length ≤ 1000000; omega)).mono ?_
      rintro e w10 ⟨rfl, hb10⟩
      rw [decide_eq_true rfl]
      have hb11 := reach_to' HQ.out.2.2.1 HQ.out.2.2.1.size hb10
      clear hb10
      go_wp2
      go_ret
      exact ⟨rfl, hb11⟩
theorem wireReads_all (E : Nat → Addr) (A : Option Addr) (n c : Nat) (l : List Int) (w : World) (hE : Errs readErrs E w) (hC : Kd.C (Kd.int .u8) w A n l) (hby : Byt l) (hle : n ≤ c) :
    Calls Tryd.prog 11 #[.slice A n c] w fun e w' => e = .returned (.bool true) ∧ Below w.heap.size w w' := by
  by_cases hn : n ≤ 200
  · cases hk : (readM l).2 with
    | some k => exact reads_bad E A n c l w k hE hC hby hle hn hC.1 (readM_err l k hk)
    | none =>
      obtain ⟨m, hR, hw, hv, h4, _, h0, h1, hd⟩ := readM_inv l hby hk
      obtain ⟨hlen, hat⟩ := msgL_of_read l m h4 h0 h1 hd
      exact reads_good E A n c l w m hE hC hby hle hn hC.1 hR hw hv (hlen.trans hC.1) hat
  · exact reads_long E A n c w (hE.sub read_wire) hn (Kd.C_max hC)
end Go.Proofs.YtbgbplbkombfjaaDoor
