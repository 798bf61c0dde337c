/- BestLost: the walk of the law. -/
import Derived.Test.YtjcihhkeehjgdaaBestPlain
namespace Go.Proofs.Ytjcihhkeehjgdaa
open Go.RowKit Go.Proofs.YtjcihhkeehjgdaaW.PrintWords
set_option linter.unusedVariables false
set_option linter.unusedSimpArgs false
set_option maxHeartbeats 1000000 in
set_option maxRecDepth 100000 in
theorem bestLost_walk (A0 A1 : Option Addr) (n0 n1 c0 c1 : Nat) (l other : List SBid) (w : World) (hr0 : Kd.C kBid w A0 n0 l) (hr1 : Kd.C kBid w A1 n1 other) :
    Calls Try.prog 3 #[.slice A0 n0 c0, .slice A1 n1 c1] w fun e w' => e = .returned (.bool true) ∧ Below w.heap.size w w' := by
  have hu30 := Try.underlying30
  by_cases hz : n0 = 0
  · subst hz
    go_enter Try.func3, Try.ntmps3
    go_wp2_with (go_at_call 14; refine (first18_any w).mono ?_; rintro e w1 ⟨rfl, hb1⟩)
    go_ret
    exact ⟨rfl, hb1⟩
  · have hz1 : ((n0 : Int) == 0) = false := by rw [beq_eq_false_iff_ne]; omega
    by_cases h0 : (20 : Int) < n0
    · go_enter Try.func3, Try.ntmps3
      go_wp2_with (go_at_call 14; refine (first18_any w).mono ?_; rintro e w1 ⟨rfl, hb1⟩)
      go_ret
      exact ⟨rfl, hb1⟩
    · by_cases h1 : (20 : Int) < n1
      · go_enter Try.func3, Try.ntmps3
        go_wp2_with (go_at_call 14; refine (first18_any w).mono ?_; rintro e w1 ⟨rfl, hb1⟩)
        go_ret
        exact ⟨rfl, hb1⟩
      · have hz2 : 0 < n0 := by omega
        have HN0 := Aside0.mk hr0.1
        have HN1 := Aside0.mk hr1.1
        have hble := bestTo_le l n0
        have hbn := best_any_false l
        rw [hr0.1] at hbn
        obtain ⟨b, hbe⟩ : ∃ b, b = bestTo l n0 := ⟨_, rfl⟩
        rw [← hbe] at hble hbn
        have HBE := Aside0.mk hbe
        have HBN := Aside0.mk hbn
        clear hbe hbn hz
        have hb0 : b < n0 := by omega
        go_enter Try.func3, Try.ntmps3
        go_wp2_with fail
        refine (first18_any w).mono ?_
        rintro e w1 ⟨rfl, hb1⟩
        go_wp2_with fail
        refine (best_any A0 n0 c0 l w1 (Kd.C_below hr0 hb1) (by omega)).mono ?_
        rintro e w2 ⟨rfl, hb2⟩
        rw [← HBE.out]
        have hb02 := below_then hb1 hb1.size hb2
        clear hb1 hb2
        obtain ⟨ad, x, rfl, q0, q1, HX⟩ := bid_at (Kd.C_below hr0 hb02) b hb0
        have HA : Aside0 (l.any (fun y => better y x) = false) := ⟨by rw [HX.out]; exact HBN.out⟩
        have HL1 : Aside0 (lostB x true l other = false) := ⟨by simp [lostB, HA.out]⟩
        have HL2 : Aside0 (lostB x false l other = decide ((0 : Int) < (n1 : Int))) := ⟨by
          unfold lostB
          rw [HA.out, HN1.out]
          simp⟩
        have HL3 : Aside0 (lostB x true [] other = false) := ⟨by simp [lostB]⟩
        go_wp2_with fail
        refine (lost_any x true _ A1 n0 n1 c0 c1 l other w2 (Kd.C_below hr0 hb02) (by omega) HN1.out).mono ?_
        rintro e w3 ⟨rfl, hb3⟩
        rw [HL1.out]
        have hb03 := below_then hb02 hb02.size hb3
        clear hb02 hb3 q0 q1
        obtain ⟨ad2, x2, e2, q0, q1, HX2⟩ := bid_at (Kd.C_below hr0 hb03) b hb0
        cases e2
        obtain rfl : x2 = x := by rw [HX.out, HX2.out]
        clear HX2
        go_wp2_with fail
        refine (lost_any x2 false _ A1 n0 n1 c0 c1 l other w3 (Kd.C_below hr0 hb03) (by omega) HN1.out).mono ?_
        rintro e w4 ⟨rfl, hb4⟩
        rw [HL2.out]
        have hb04 := below_then hb03 hb03.size hb4
        clear hb03 hb4 q0 q1
        obtain ⟨ad2, x, e2, q0, q1, HX2⟩ := bid_at (Kd.C_below hr0 hb04) b hb0
        cases e2
        obtain rfl : x = x2 := by rw [HX.out, HX2.out]
        clear HX2
        go_wp2_with fail
        refine (lost_any x true none A1 0 n1 0 c1 [] other w4 ⟨rfl, by omega, fun h => absurd h (by omega)⟩ (by omega) HN1.out).mono ?_
        rintro e w5 ⟨rfl, hb5⟩
        rw [HL3.out]
        have hb05 := below_then hb04 hb04.size hb5
        clear hb04 hb5 q0 q1
        go_wp2_with fail
        go_ret
        exact ⟨rfl, hb05⟩
end Go.Proofs.Ytjcihhkeehjgdaa
