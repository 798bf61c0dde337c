/- SumSays: the walk of the law. -/
import Derived.Test.YtbgbplbkombfjaaSumFirst
import Derived.Test.YtbgbplbkombfjaaRowBytes
namespace Go.Proofs.Ytbgbplbkombfjaa
open Go.RowKit Go.Proofs.YtbgbplbkombfjaaW.PrintWords SumPlain
set_option linter.unusedVariables false
set_option linter.unusedSimpArgs false
set_option maxHeartbeats 400000 in
theorem sumSays_walk (A : Option Addr) (n c : Nat) (l : List Int) (at_ : Int) (w : World) (hr : Kd.C (Kd.int .u8) w A n l) (hb : Byt l) :
    Calls Try.prog 6 #[.slice A n c, .int .i64 at_] w fun e w' => e = .returned (.bool true) ∧ Below w.heap.size w w' := by
  by_cases hl : (300 : Int) < n
  · go_enter Try.func6, Try.ntmps6
    go_wp2_with (go_at_call 8; refine (first2_any w).mono ?_; rintro e w1 ⟨rfl, rfl⟩)
    go_ret
    exact ⟨rfl, Below.refl _ _⟩
  · have hlen : l.length ≤ 1000000 := by have := hr.1; omega
    have HL := Aside0.mk hlen
    clear hlen
    go_enter Try.func6, Try.ntmps6
    go_wp2_with fail
    refine (first2_any w).mono ?_
    rintro e w1 ⟨rfl, rfl⟩
    go_wp2_with fail
    refine (put_any A n c l at_ w hr hb HL.out).mono ?_
    rintro e w1 ⟨v, rfl, hown, hbel⟩
    have hr1 := Kd.C_below hr hbel
    obtain ⟨A1, c1, rfl, _, hC1⟩ := Kd.R_reads hown
    go_wp2_with fail
    refine (of_any A n c l w1 hr1 hb HL.out).mono ?_
    rintro e w2 ⟨rfl, rfl⟩
    go_wp2_with fail
    refine (refsum_any A n c l w1 hr1 hb HL.out).mono ?_
    rintro e w2 ⟨rfl, rfl⟩
    go_wp2_with fail
    refine (refput_any A n c l at_ w1 hr1 hb HL.out).mono ?_
    rintro e w2 ⟨v2, rfl, hown2, hbel2⟩
    have hr2 := Kd.C_below hr1 hbel2
    have hC1' := Kd.C_below hC1 hbel2
    have hb02 := below_then hbel hbel.size hbel2
    obtain ⟨A2, c2, rfl, _, hC2⟩ := Kd.R_reads hown2
    clear hr1 hC1 hown hown2 hbel hbel2
    go_wp2_with fail
    refine (same_any A1 A2 _ _ c1 c2 (putL l at_) (putL l at_) w2 hC1' hC2 (by rw [putL_length]; exact HL.out)).mono ?_
    rintro e w3 ⟨rfl, hd⟩
    have hr3 := Kd.C_below hr2 hd.below
    have hb03 := below_then hb02 hb02.size hd.below
    clear hd hr2 hC1' hC2 hb02
    go_wp2_with fail
    refine (check_any A n c l w3 hr3 hb HL.out).mono ?_
    rintro e w4 ⟨rfl, rfl⟩
    go_wp2_with fail
    refine (refsum_any A n c l w3 hr3 hb HL.out).mono ?_
    rintro e w4 ⟨rfl, rfl⟩
    go_wp2_with fail
    go_ret
    exact ⟨ret_bool (by rw [beq_iff_eq, Bool.eq_iff_iff]; simp), hb03⟩
end Go.Proofs.Ytbgbplbkombfjaa
