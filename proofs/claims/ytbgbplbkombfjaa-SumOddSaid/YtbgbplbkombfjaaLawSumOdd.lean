/- SumOdd: the walk of the law. -/
import Derived.Test.YtbgbplbkombfjaaLawSumOwn
namespace Go.Proofs.Ytbgbplbkombfjaa
open Go.RowKit Go.Proofs.YtbgbplbkombfjaaW.PrintWords SumPlain
set_option linter.unusedVariables false
set_option linter.unusedSimpArgs false
set_option maxHeartbeats 400000 in
theorem sumOdd_walk (A : Option Addr) (n c : Nat) (l : List Int) (at_ : Int) (w : World) (hr : Kd.C (Kd.int .u8) w A n l) (hb : Byt l) (hwf : (Lit.int .i64 at_).wf = true) :
    Calls Try.prog 4 #[.slice A n c, .int .i64 at_] w fun e w' => e = .returned (.bool true) ∧ Below w.heap.size w w' := by
  by_cases hl : (200 : Int) < n
  · go_enter Try.func4, Try.ntmps4
    go_wp2_with (go_at_call 8; refine (first2_any w).mono ?_; rintro e w1 ⟨rfl, rfl⟩)
    go_ret
    exact ⟨rfl, Below.refl _ _⟩
  · have hlen := Aside0.mk hr.1
    have hll : l.length ≤ 200 := by have := hr.1; omega
    obtain ⟨q, hq, HNum⟩ := number_ex at_ 100 (by omega) (by omega) hwf
    have HP1 := Aside0.mk (putL_bad l (2 * (q : Int) + 1) (by omega))
    have HP2 := Aside0.mk (putL_bad l (-2) (by omega))
    have HP3 := Aside0.mk (putL_bad l (n : Int) (by rw [hlen.out]; omega))
    go_enter Try.func4, Try.ntmps4
    go_wp2_with fail
    refine (first2_any w).mono ?_
    rintro e w1 ⟨rfl, rfl⟩
    go_wp2_with fail
    refine (bytes_any A n c l w hr (by omega)).mono ?_
    rintro e w1 ⟨v1, rfl, hown1, hbel1⟩
    obtain ⟨A1, c1, rfl, hc1, hC1⟩ := Kd.R_reads hown1
    have hl0 : l.length ≤ 1000 := by omega
    by_cases hp : (l.length : Int) % 2 = 0
    · have HL := Aside0.mk (lit_C .u8 w1 5 [7] (by decide))
      have HO := Aside0.mk (Kd.R_below hown1 ((Below.refl w1.heap.size w1).alloc (Nat.le_refl _) (.cells (nums .u8 [7]).toArray 5 (0, 0))))
      have HB := Aside0.mk (hbel1.alloc hbel1.size (.cells (nums .u8 [7]).toArray 5 (0, 0)))
      clear hown1 hbel1 hC1
      go_wp2_with (at_builtin; refine Kd.R_append_row (w0 := w) (Value.int .u8) 0 w.heap.size rfl (.tmp 21) (.tmp 22) 22 5 (.int .u8 0) 1 rfl Try.underlying22 Try.infoB rfl (by decide) _ l [7] (some ⟨w1.heap.size, 0, none⟩) 1 1 (fun _ => True) rfl rfl (fun _ _ => trivial) HO.out HL.out HB.out HB.out.size ?ca ?_)
      case ca => omega
      intro vx W hownX hbX _ _
      obtain ⟨A6, c6, rfl, hcX, hCX⟩ := Kd.R_reads hownX
      have hxl0 : (l ++ [7]).length ≤ 1000 := by rw [List.length_append]; simp; omega
      have hbyX : Byt (l ++ [7]) := byt_append hb (fun z hz => by simp at hz; omega)
      obtain ⟨x, hx⟩ : ∃ x, x = l ++ [7] := ⟨_, rfl⟩
      have hCX' : (Kd.int .u8).C W A6 x.length x := by rw [hx]; exact hCX
      rw [← hx] at hxl0 hbyX
      rw [← hx]
      clear hCX hownX hx HL HO HB
      have hCX := hCX'
      clear hCX'
      have hrX := Kd.C_below hr hbX
      have HZ := Aside0.mk (ofL_zero_behind x)
      have hxl : x.length ≤ 1000 := hxl0
      clear hr hxl0
      go_wp2_with fail
      refine (HNum.out W).mono ?_
      rintro e w2 ⟨rfl, rfl⟩
      go_wp2_with fail
      refine (put_any A n c l (2 * (q : Int) + 1) W hrX hb (by omega)).mono ?_
      rintro e w2 ⟨v2, rfl, hown2, hbel2⟩
      rw [HP1.out] at hown2
      obtain ⟨A2, c2, rfl, hc2, hC2⟩ := Kd.R_reads hown2
      have hr2 := Kd.C_below hrX hbel2
      have hx2 := Kd.C_below hCX hbel2
      have hb2 := below_then hbX hbX.size hbel2
      clear hrX hCX hbX hown2 hbel2
      go_wp2_with fail
      refine (of_any A6 _ c6 x w2 hx2 hbyX (by omega)).mono ?_
      rintro e w3 ⟨rfl, rfl⟩
      go_wp2_with fail
      refine (bytes_any A6 _ c6 x w2 hx2 (by omega)).mono ?_
      rintro e w3 ⟨v3, rfl, hown3, hbel3⟩
      have hlit := lit_C .u8 w3 5 [0] (by decide)
      have HL := Aside0.mk hlit
      have HO := Aside0.mk (Kd.R_below hown3 ((Below.refl w3.heap.size w3).alloc (Nat.le_refl _) (.cells (nums .u8 [0]).toArray 5 (0, 0))))
      have HB := Aside0.mk (hbel3.alloc hbel3.size (.cells (nums .u8 [0]).toArray 5 (0, 0)))
      clear hlit hown3 hbel3
      go_wp2_with (at_builtin; refine app_row_list (w0 := w2) w2.heap.size rfl (.tmp 35) (.tmp 36) 22 5 1 rfl Try.underlying22 Try.infoB (by decide) _ x [0] (some ⟨w3.heap.size, 0, none⟩) 1 1 rfl rfl HO.out HL.out HB.out HB.out.size ?cb ?_)
      case cb => omega
      intro v4 w4 hown4 hbel4
      obtain ⟨A4, c4, rfl, hc4, hC4⟩ := Kd.R_reads hown4
      have hr4 := Kd.C_below hr2 hbel4
      have hC24 := Kd.C_below hC2 hbel4
      have hb4 := below_then hb2 hb2.size hbel4
      have hzl : (x ++ [0]).length ≤ 1000000 := by rw [List.length_append]; simp; omega
      clear hr2 hC2 hx2 hb2 hown4 hbel4 HO HL HB
      go_wp2_with fail
      refine (of_any A4 _ c4 (x ++ [0]) w4 (by first | exact hC4 | simpa using hC4) (byt_append hbyX (fun z hz => by simp at hz; omega)) hzl).mono ?_
      rintro e w5 ⟨rfl, rfl⟩
      rw [HZ.out]
      go_wp2_with fail
      refine (same_any A2 A _ _ c2 c l l w4 hC24 hr4 (by omega)).mono ?_
      rintro e w5 ⟨rfl, hd⟩
      have hr5 := Kd.C_below hr4 hd.below
      have hb5 := below_then hb4 hb4.size hd.below
      clear hd hr4 hb4 hC4 hC24
      go_wp2_with fail
      refine (put_any A n c l (-2) w5 hr5 hb (by omega)).mono ?_
      rintro e w6 ⟨v6, rfl, hown6, hbel6⟩
      rw [HP2.out] at hown6
      obtain ⟨A7, c7, rfl, hc7, hC7⟩ := Kd.R_reads hown6
      have hr6 := Kd.C_below hr5 hbel6
      have hb6 := below_then hb5 hb5.size hbel6
      clear hr5 hb5 hown6 hbel6
      go_wp2_with fail
      refine (same_any A7 A _ _ c7 c l l w6 hC7 hr6 (by omega)).mono ?_
      rintro e w7 ⟨rfl, hd⟩
      have hr7 := Kd.C_below hr6 hd.below
      have hb7 := below_then hb6 hb6.size hd.below
      clear hd hr6 hb6 hC7
      go_wp2_with fail
      refine (put_any A n c l (n : Int) w7 hr7 hb (by omega)).mono ?_
      rintro e w8 ⟨v8, rfl, hown8, hbel8⟩
      rw [HP3.out] at hown8
      obtain ⟨A8, c8, rfl, hc8, hC8⟩ := Kd.R_reads hown8
      have hr8 := Kd.C_below hr7 hbel8
      have hb8 := below_then hb7 hb7.size hbel8
      clear hr7 hb7 hown8 hbel8
      go_wp2_with fail
      refine (same_any A8 A _ _ c8 c l l w8 hC8 hr8 (by omega)).mono ?_
      rintro e w9 ⟨rfl, hd⟩
      have hb9 := below_then hb8 hb8.size hd.below
      clear hd hr8 hb8 hC8
      go_wp2_with fail
      go_ret
      exact ⟨rfl, hb9⟩
    · obtain ⟨x, hx⟩ : ∃ x, x = l := ⟨_, rfl⟩
      obtain ⟨A6, c6, W, hA, hcc, hW⟩ : ∃ A6 c6 W, A6 = A1 ∧ c6 = c1 ∧ W = w1 := ⟨_, _, _, rfl, rfl, rfl⟩
      have hCX : (Kd.int .u8).C W A6 x.length x := by rw [hA, hW, hx]; exact hC1
      have hxl0 : x.length ≤ 1000 := by rw [hx]; exact hl0
      have hbyX : Byt x := by rw [hx]; exact hb
      have hbX : Below w.heap.size w W := by rw [hW]; exact hbel1
      rw [← hA, ← hcc, ← hW]
      have hp' : ((l.length : Int) % 2 == 0) = false := by rw [beq_eq_false_iff_ne]; exact hp
      rw [show l.length = x.length by rw [hx]] at hp' ⊢
      clear hA hcc hW hC1 hown1 hbel1 hx hp
      have hrX := Kd.C_below hr hbX
      have HZ := Aside0.mk (ofL_zero_behind x)
      have hxl : x.length ≤ 1000 := hxl0
      clear hr hxl0
      go_wp2_with fail
      refine (HNum.out W).mono ?_
      rintro e w2 ⟨rfl, rfl⟩
      go_wp2_with fail
      refine (put_any A n c l (2 * (q : Int) + 1) W hrX hb (by omega)).mono ?_
      rintro e w2 ⟨v2, rfl, hown2, hbel2⟩
      rw [HP1.out] at hown2
      obtain ⟨A2, c2, rfl, hc2, hC2⟩ := Kd.R_reads hown2
      have hr2 := Kd.C_below hrX hbel2
      have hx2 := Kd.C_below hCX hbel2
      have hb2 := below_then hbX hbX.size hbel2
      clear hrX hCX hbX hown2 hbel2
      go_wp2_with fail
      refine (of_any A6 _ c6 x w2 hx2 hbyX (by omega)).mono ?_
      rintro e w3 ⟨rfl, rfl⟩
      go_wp2_with fail
      refine (bytes_any A6 _ c6 x w2 hx2 (by omega)).mono ?_
      rintro e w3 ⟨v3, rfl, hown3, hbel3⟩
      have hlit := lit_C .u8 w3 5 [0] (by decide)
      have HL := Aside0.mk hlit
      have HO := Aside0.mk (Kd.R_below hown3 ((Below.refl w3.heap.size w3).alloc (Nat.le_refl _) (.cells (nums .u8 [0]).toArray 5 (0, 0))))
      have HB := Aside0.mk (hbel3.alloc hbel3.size (.cells (nums .u8 [0]).toArray 5 (0, 0)))
      clear hlit hown3 hbel3
      go_wp2_with (at_builtin; refine app_row_list (w0 := w2) w2.heap.size rfl (.tmp 35) (.tmp 36) 22 5 1 rfl Try.underlying22 Try.infoB (by decide) _ x [0] (some ⟨w3.heap.size, 0, none⟩) 1 1 rfl rfl HO.out HL.out HB.out HB.out.size ?cd ?_)
      case cd => omega
      intro v4 w4 hown4 hbel4
      obtain ⟨A4, c4, rfl, hc4, hC4⟩ := Kd.R_reads hown4
      have hr4 := Kd.C_below hr2 hbel4
      have hC24 := Kd.C_below hC2 hbel4
      have hb4 := below_then hb2 hb2.size hbel4
      have hzl : (x ++ [0]).length ≤ 1000000 := by rw [List.length_append]; simp; omega
      clear hr2 hC2 hx2 hb2 hown4 hbel4 HO HL HB
      go_wp2_with fail
      refine (of_any A4 _ c4 (x ++ [0]) w4 (by first | exact hC4 | simpa using hC4) (byt_append hbyX (fun z hz => by simp at hz; omega)) hzl).mono ?_
      rintro e w5 ⟨rfl, rfl⟩
      rw [HZ.out]
      go_wp2_with fail
      refine (same_any A2 A _ _ c2 c l l w4 hC24 hr4 (by omega)).mono ?_
      rintro e w5 ⟨rfl, hd⟩
      have hr5 := Kd.C_below hr4 hd.below
      have hb5 := below_then hb4 hb4.size hd.below
      clear hd hr4 hb4 hC4 hC24
      go_wp2_with fail
      refine (put_any A n c l (-2) w5 hr5 hb (by omega)).mono ?_
      rintro e w6 ⟨v6, rfl, hown6, hbel6⟩
      rw [HP2.out] at hown6
      obtain ⟨A7, c7, rfl, hc7, hC7⟩ := Kd.R_reads hown6
      have hr6 := Kd.C_below hr5 hbel6
      have hb6 := below_then hb5 hb5.size hbel6
      clear hr5 hb5 hown6 hbel6
      go_wp2_with fail
      refine (same_any A7 A _ _ c7 c l l w6 hC7 hr6 (by omega)).mono ?_
      rintro e w7 ⟨rfl, hd⟩
      have hr7 := Kd.C_below hr6 hd.below
      have hb7 := below_then hb6 hb6.size hd.below
      clear hd hr6 hb6 hC7
      go_wp2_with fail
      refine (put_any A n c l (n : Int) w7 hr7 hb (by omega)).mono ?_
      rintro e w8 ⟨v8, rfl, hown8, hbel8⟩
      rw [HP3.out] at hown8
      obtain ⟨A8, c8, rfl, hc8, hC8⟩ := Kd.R_reads hown8
      have hr8 := Kd.C_below hr7 hbel8
      have hb8 := below_then hb7 hb7.size hbel8
      clear hr7 hb7 hown8 hbel8
      go_wp2_with fail
      refine (same_any A8 A _ _ c8 c l l w8 hC8 hr8 (by omega)).mono ?_
      rintro e w9 ⟨rfl, hd⟩
      have hb9 := below_then hb8 hb8.size hd.below
      clear hd hr8 hb8 hC8
      go_wp2_with fail
      go_ret
      exact ⟨rfl, hb9⟩
end Go.Proofs.Ytbgbplbkombfjaa
