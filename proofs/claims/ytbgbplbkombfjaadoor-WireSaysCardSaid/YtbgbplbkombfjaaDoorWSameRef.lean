/- rivuletref.SameAddrs, SameMsg. -/
import Derived.Test.YtbgbplbkombfjaaDoorWMsg
import Derived.Test.YtbgbplbkombfjaaDoorSmall
namespace Go.Proofs.YtbgbplbkombfjaaDoor
open Go.RowKit Go.Proofs.YtbgbplbkombfjaaDoorW.PrintWords SumPlain
set_option linter.unusedVariables false
set_option linter.unusedSimpArgs false
attribute [local go_sem] setCell_drewN alloc_drewN
set_option maxHeartbeats 400000 in
theorem saddrs_any (A0 A1 : Option Addr) (n0 n1 c0 c1 : Nat) (l0 l1 : List Int) (w : World) (h0 : Kd.C (Kd.int .u32) w A0 n0 l0) (h1 : Kd.C (Kd.int .u32) w A1 n1 l1) (hl : l0.length ≤ 1000000) :
    Calls Tryd.prog 57 #[.slice A0 n0 c0, .slice A1 n1 c1] w fun e w' => e = .returned (.bool (decide (l0 = l1))) ∧ Drawn0 w w' := by
  obtain rfl := h0.1
  obtain rfl := h1.1
  by_cases hne : l0.length = l1.length
  · obtain ⟨n, hn0⟩ : ∃ n, l0.length = n := ⟨_, rfl⟩
    have hn1 : l1.length = n := by omega
    rw [hn0] at h0 hl ⊢
    rw [hn1] at h1 ⊢
    have H0 := Aside0.mk hn0
    have H1 := Aside0.mk hn1
    clear hn0 hn1 hne
    go_enter Tryd.func57, Tryd.ntmps57
    go_wp2
    go_loopg [5] n (fun k i w' => ∃ j : Nat, j + k = n ∧ i = .int .i64 j ∧ Aside0 (l0.take j = l1.take j) ∧ Drawn0 w w')
    case atStart => exact ⟨0, by omega, rfl, ⟨rfl⟩, Drawn0.refl _⟩
    case round =>
      obtain ⟨j, hj, rfl, HT, ⟨m1, rfl⟩⟩ := hrel
      by_cases hlt : j < n
      · obtain ⟨ad0, x0, rfl, hc0, HX0⟩ := at_nat h0 j hlt
        obtain ⟨ad1, x1, rfl, hc1, HX1⟩ := at_nat h1 j hlt
        by_cases hx : x0 = x1
        · have HS : Aside0 (l0.take (j + 1) = l1.take (j + 1)) := ⟨same_step _ _ j (by rw [H0.out, H1.out]) (by rw [H0.out]; exact hlt) HT.out (by rw [← HX0.out, ← HX1.out, hx])⟩
          subst hx
          go_wp2
          repeat (go_quiet (fail); try go_wp2)
          go_roundg (gk - 1)
          case rel => exact ⟨j + 1, by omega, by go_num, HS, by repeat (first | exact Drawn0.refl _ | apply Drawn0.step)⟩
          case measure => omega
        · have HN : Aside0 (decide (l0 = l1) = false) := ⟨same_not _ _ j (by rw [← HX0.out, ← HX1.out]; exact hx)⟩
          have hx2 : (x0 == x1) = false := beq_eq_false_iff_ne.mpr hx
          go_wp2
          repeat (go_quiet (fail); try go_wp2)
          go_ret
          exact ⟨ret_bool HN.out.symm, by repeat (first | exact Drawn0.refl _ | apply Drawn0.step)⟩
      · obtain rfl : j = n := by omega
        have HE : Aside0 (decide (l0 = l1) = true) := ⟨by
          have := HT.out
          rw [List.take_of_length_le (by rw [H0.out]; omega), List.take_of_length_le (by rw [H1.out]; omega)] at this
          exact decide_eq_true this⟩
        go_wp2
        go_ret
        exact ⟨ret_bool HE.out.symm, by repeat (first | exact Drawn0.refl _ | apply Drawn0.step)⟩
  · have HN : Aside0 (decide (l0 = l1) = false) := ⟨by rw [decide_eq_false_iff_not]; rintro rfl; exact hne rfl⟩
    have hb : ((l0.length : Int) == (l1.length : Int)) = false := by rw [beq_eq_false_iff_ne]; omega
    have hb2 : (l0.length == l1.length) = false := by rw [beq_eq_false_iff_ne]; exact hne
    have hb3 : ((l0.length : Int) != (l1.length : Int)) = true := by rw [bne_iff_ne]; omega
    go_enter Tryd.func57, Tryd.ntmps57
    go_wp2
    go_ret
    exact ⟨ret_bool HN.out.symm, by repeat (first | exact Drawn0.refl _ | apply Drawn0.step)⟩
theorem skey_yes (a b : Int) (w : World) : Calls Tryd.prog 56 #[.agg #[.int .u32 a, .int .u32 b], .agg #[.int .u32 a, .int .u32 b]] w fun e w' => e = .returned (.bool true) ∧ Below w.heap.size w w' := by
  have hu3 := Tryd.underlying53
  go_enter Tryd.func56, Tryd.ntmps56
  go_wp2
  all_goals go_ret
  all_goals exact ⟨rfl, by go_grown⟩
set_option maxHeartbeats 2000000 in
set_option maxRecDepth 100000 in
theorem smsg_no (x0 x1 x2 x3 x4 x5 x6 y0 y1 y2 y3 y4 y5 y6 : Int) (x7 y7 : Bool) (l0 l1 : List Int) (A0 A1 : Option Addr) (n0 n1 c0 c1 : Nat) (w : World) (h0 : Kd.C (Kd.int .u32) w A0 n0 l0) (h1 : Kd.C (Kd.int .u32) w A1 n1 l1) (hl : l0.length ≤ 1000000) (hn : ¬ (x0 = y0 ∧ x1 = y1 ∧ x2 = y2 ∧ x3 = y3 ∧ x4 = y4 ∧ x5 = y5 ∧ x6 = y6 ∧ x7 = y7)) :
    Calls Tryd.prog 32 #[.agg #[.int .i64 x0, .int .u32 x1, .int .u32 x2, .int .u32 x3, .int .u32 x4, .int .i64 x5, .int .i64 x6, .bool x7, .slice A0 n0 c0], .agg #[.int .i64 y0, .int .u32 y1, .int .u32 y2, .int .u32 y3, .int .u32 y4, .int .i64 y5, .int .i64 y6, .bool y7, .slice A1 n1 c1]] w fun e w' => e = .returned (.bool false) ∧ Below w.heap.size w w' := by
  have hu2 := Tryd.underlying56
  have hu3 := Tryd.underlying53
  clear h0 h1 hl
  by_cases h0 : x0 = y0
  · subst h0
    by_cases h1 : x1 = y1
    · subst h1
      by_cases h2 : x2 = y2
      · subst h2
        by_cases h3 : x3 = y3
        · subst h3
          by_cases h4 : x4 = y4
          · subst h4
            by_cases h5 : x5 = y5
            · subst h5
              by_cases h6 : x6 = y6
              · subst h6
                by_cases h7 : x7 = y7
                · subst h7
                  exact absurd ⟨rfl, rfl, rfl, rfl, rfl, rfl, rfl, rfl⟩ hn
                · have b7 : (x7 == y7) = false := beq_eq_false_iff_ne.2 h7
                  clear hn h7
                  go_enter Tryd.func32, Tryd.ntmps32
                  go_wp2
                  all_goals go_ret
                  all_goals exact ⟨rfl, by go_grown⟩
              · have b6 : (x6 == y6) = false := beq_eq_false_iff_ne.2 h6
                clear hn h6
                go_enter Tryd.func32, Tryd.ntmps32
                go_wp2
                all_goals go_ret
                all_goals exact ⟨rfl, by go_grown⟩
            · have b5 : (x5 == y5) = false := beq_eq_false_iff_ne.2 h5
              clear hn h5
              go_enter Tryd.func32, Tryd.ntmps32
              go_wp2
              all_goals go_ret
              all_goals exact ⟨rfl, by go_grown⟩
          · have b4 : (x4 == y4) = false := beq_eq_false_iff_ne.2 h4
            clear hn h4
            go_enter Tryd.func32, Tryd.ntmps32
            go_wp2
            all_goals go_ret
            all_goals exact ⟨rfl, by go_grown⟩
        · have b3 : (x3 == y3) = false := beq_eq_false_iff_ne.2 h3
          clear hn h3
          go_enter Tryd.func32, Tryd.ntmps32
          go_wp2
          all_goals go_ret
          all_goals exact ⟨rfl, by go_grown⟩
      · have b2 : (x2 == y2) = false := beq_eq_false_iff_ne.2 h2
        clear hn h2
        go_enter Tryd.func32, Tryd.ntmps32
        go_wp2
        all_goals go_ret
        all_goals exact ⟨rfl, by go_grown⟩
    · have b1 : (x1 == y1) = false := beq_eq_false_iff_ne.2 h1
      clear hn h1
      go_enter Tryd.func32, Tryd.ntmps32
      go_wp2
      all_goals go_ret
      all_goals exact ⟨rfl, by go_grown⟩
  · have b0 : (x0 == y0) = false := beq_eq_false_iff_ne.2 h0
    clear hn h0
    go_enter Tryd.func32, Tryd.ntmps32
    go_wp2
    all_goals go_ret
    all_goals exact ⟨rfl, by go_grown⟩
set_option maxHeartbeats 2000000 in
set_option maxRecDepth 100000 in
theorem smsg_list (x0 x1 x2 x3 x4 x5 x6 : Int) (x7 : Bool) (l0 l1 : List Int) (A0 A1 : Option Addr) (n0 n1 c0 c1 : Nat) (w : World) (h0 : Kd.C (Kd.int .u32) w A0 n0 l0) (h1 : Kd.C (Kd.int .u32) w A1 n1 l1) (hl : l0.length ≤ 1000000) :
    Calls Tryd.prog 32 #[.agg #[.int .i64 x0, .int .u32 x1, .int .u32 x2, .int .u32 x3, .int .u32 x4, .int .i64 x5, .int .i64 x6, .bool x7, .slice A0 n0 c0], .agg #[.int .i64 x0, .int .u32 x1, .int .u32 x2, .int .u32 x3, .int .u32 x4, .int .i64 x5, .int .i64 x6, .bool x7, .slice A1 n1 c1]] w fun e w' => e = .returned (.bool (decide (l0 = l1))) ∧ Below w.heap.size w w' := by
  have hu2 := Tryd.underlying56
  have hu3 := Tryd.underlying53
  have hb := below_alloc (below_alloc (Below.refl w.heap.size w) (.cells #[.int .i64 x0, .int .u32 x1, .int .u32 x2, .int .u32 x3, .int .u32 x4, .int .i64 x5, .int .i64 x6, .bool x7, .slice A0 n0 c0] 56)) (.cells #[.int .i64 x0, .int .u32 x1, .int .u32 x2, .int .u32 x3, .int .u32 x4, .int .i64 x5, .int .i64 x6, .bool x7, .slice A1 n1 c1] 56)
  have HC := Aside0.mk (And.intro (Kd.C_below h0 hb) (And.intro (Kd.C_below h1 hb) hb))
  have HL := Aside0.mk hl
  clear h0 h1 hb hl
  go_enter Tryd.func32, Tryd.ntmps32
  go_wp2_with fail
  obtain ⟨X, hX⟩ : ∃ X, X = (w.alloc (.cells #[.int .i64 x0, .int .u32 x1, .int .u32 x2, .int .u32 x3, .int .u32 x4, .int .i64 x5, .int .i64 x6, .bool x7, .slice A0 n0 c0] 56)).alloc (.cells #[.int .i64 x0, .int .u32 x1, .int .u32 x2, .int .u32 x3, .int .u32 x4, .int .i64 x5, .int .i64 x6, .bool x7, .slice A1 n1 c1] 56) := ⟨_, rfl⟩
  rw [← hX]
  have HX := Aside0.mk hX
  have hh : X.heap[w.heap.size]? = some (.cells #[.int .i64 x0, .int .u32 x1, .int .u32 x2, .int .u32 x3, .int .u32 x4, .int .i64 x5, .int .i64 x6, .bool x7, .slice A0 n0 c0] 56 (0, 0)) := by rw [hX]; exact blk_alloc (heap_alloc_new w _) _
  have hg : X.heap[w.heap.size + 1]? = some (.cells #[.int .i64 x0, .int .u32 x1, .int .u32 x2, .int .u32 x3, .int .u32 x4, .int .i64 x5, .int .i64 x6, .bool x7, .slice A1 n1 c1] 56 (0, 0)) := by rw [hX]; exact new_at _ _ _ (by simp)
  rw [← hX] at HC
  clear HX hX
  refine (skey_yes x3 x4 X).mono ?_
  rintro e w1 ⟨rfl, hb1⟩
  have hh := blk_below hh hb1
  have hg := blk_below hg hb1
  have p0 := (blk_cell hh 0).trans rfl
  have q0 := (blk_cell hg 0).trans rfl
  have p1 := (blk_cell hh 1).trans rfl
  have q1 := (blk_cell hg 1).trans rfl
  have p2 := (blk_cell hh 2).trans rfl
  have q2 := (blk_cell hg 2).trans rfl
  have p3 := (blk_cell hh 3).trans rfl
  have q3 := (blk_cell hg 3).trans rfl
  have p4 := (blk_cell hh 4).trans rfl
  have q4 := (blk_cell hg 4).trans rfl
  have p5 := (blk_cell hh 5).trans rfl
  have q5 := (blk_cell hg 5).trans rfl
  have p6 := (blk_cell hh 6).trans rfl
  have q6 := (blk_cell hg 6).trans rfl
  have p7 := (blk_cell hh 7).trans rfl
  have q7 := (blk_cell hg 7).trans rfl
  have p8 := (blk_cell hh 8).trans rfl
  have q8 := (blk_cell hg 8).trans rfl
  have HD := Aside0.mk (And.intro (Kd.C_below HC.out.1 hb1) (And.intro (Kd.C_below HC.out.2.1 hb1) (reach_to' HC.out.2.2 HC.out.2.2.size hb1)))
  clear hh hg hb1 HC
  go_wp2_with fail
  refine (saddrs_any A0 A1 n0 n1 c0 c1 l0 l1 _ HD.out.1 HD.out.2.1 HL.out).mono ?_
  rintro e w2 ⟨rfl, hd⟩
  have hb1 := reach_to' HD.out.2.2 HD.out.2.2.size hd.below
  clear hd
  go_wp2
  all_goals go_ret
  all_goals exact ⟨rfl, hb1⟩
theorem smsg_any (m n : Msg) (A0 A1 : Option Addr) (n0 n1 c0 c1 : Nat) (w : World) (h0 : Kd.C (Kd.int .u32) w A0 n0 m.l) (h1 : Kd.C (Kd.int .u32) w A1 n1 n.l) (hl : m.l.length ≤ 1000000) :
    Calls Tryd.prog 32 #[.agg (m.cells (.slice A0 n0 c0)), .agg (n.cells (.slice A1 n1 c1))] w fun e w' => e = .returned (.bool (decide (m = n))) ∧ Below w.heap.size w w' := by
  obtain ⟨x0, x1, x2, x3, x4, x5, x6, x7, l0⟩ := m
  obtain ⟨y0, y1, y2, y3, y4, y5, y6, y7, l1⟩ := n
  simp only [Msg.cells]
  simp only at h0 h1 hl
  by_cases hs : x0 = y0 ∧ x1 = y1 ∧ x2 = y2 ∧ x3 = y3 ∧ x4 = y4 ∧ x5 = y5 ∧ x6 = y6 ∧ x7 = y7
  · obtain ⟨rfl, rfl, rfl, rfl, rfl, rfl, rfl, rfl⟩ := hs
    rw [show decide ((⟨x0, x1, x2, x3, x4, x5, x6, x7, l0⟩ : Msg) = ⟨x0, x1, x2, x3, x4, x5, x6, x7, l1⟩) = decide (l0 = l1) by rw [decide_eq_decide]; simp]
    exact smsg_list x0 x1 x2 x3 x4 x5 x6 x7 l0 l1 A0 A1 n0 n1 c0 c1 w h0 h1 hl
  · rw [show decide ((⟨x0, x1, x2, x3, x4, x5, x6, x7, l0⟩ : Msg) = ⟨y0, y1, y2, y3, y4, y5, y6, y7, l1⟩) = false by rw [decide_eq_false_iff_not]; intro e; simp only [Msg.mk.injEq] at e; exact hs ⟨e.1, e.2.1, e.2.2.1, e.2.2.2.1, e.2.2.2.2.1, e.2.2.2.2.2.1, e.2.2.2.2.2.2.1, e.2.2.2.2.2.2.2.1⟩]
    exact smsg_no x0 x1 x2 x3 x4 x5 x6 y0 y1 y2 y3 y4 y5 y6 x7 y7 l0 l1 A0 A1 n0 n1 c0 c1 w h0 h1 hl hs
end Go.Proofs.YtbgbplbkombfjaaDoor
