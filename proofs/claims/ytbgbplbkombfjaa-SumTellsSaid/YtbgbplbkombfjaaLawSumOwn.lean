/- SumOwn: the walk of the law. -/
import Derived.Test.YtbgbplbkombfjaaSumFirst
import Derived.Test.YtbgbplbkombfjaaRowBytes
namespace Go.Proofs.Ytbgbplbkombfjaa
open Go.RowKit Go.Proofs.YtbgbplbkombfjaaW.PrintWords SumPlain
set_option linter.unusedVariables false
set_option linter.unusedSimpArgs false
theorem number_ex (by_ : Int) (m : Int) (hm : 1 ≤ m) (hm2 : m ≤ 1000000) (hwf : (Lit.int .i64 by_).wf = true) :
    ∃ q : Nat, (q : Int) < m ∧ Aside0 (∀ W : World, Calls Try.prog 10 #[.int .i64 by_, .int .i64 m] W fun e w' => e = .returned (.int .i64 (q : Int)) ∧ W = w') := by
  have h1 := Int.emod_nonneg by_ (show m ≠ 0 by omega)
  have h2 := Int.emod_lt_of_pos by_ (show 0 < m by omega)
  obtain ⟨q, hq⟩ := Int.eq_ofNat_of_zero_le h1
  exact ⟨q, by omega, ⟨fun W => by rw [← hq]; exact number_any by_ m W hm hm2 hwf⟩⟩
set_option maxHeartbeats 400000 in
theorem sumOwn_walk (A : Option Addr) (n c : Nat) (l : List Int) (at_ : Int) (w : World) (hr : Kd.C (Kd.int .u8) w A n l) (hb : Byt l) (hwf : (Lit.int .i64 at_).wf = true) :
    Calls Try.prog 5 #[.slice A n c, .int .i64 at_] w fun e w' => e = .returned (.bool true) ∧ Below w.heap.size w w' := by
  by_cases hl : (200 : Int) < n
  · go_enter Try.func5, Try.ntmps5
    go_wp2_with (go_at_call 8; refine (first2_any w).mono ?_; rintro e w1 ⟨rfl, rfl⟩)
    go_ret
    exact ⟨rfl, Below.refl _ _⟩
  · by_cases hl2 : (n : Int) < 2
    · go_enter Try.func5, Try.ntmps5
      go_wp2_with (go_at_call 8; refine (first2_any w).mono ?_; rintro e w1 ⟨rfl, rfl⟩)
      go_ret
      exact ⟨rfl, Below.refl _ _⟩
    · have hlen := Aside0.mk hr.1
      have hll : l.length ≤ 1000000 := by have := hr.1; omega
      obtain ⟨q, hq, HNum⟩ := number_ex at_ ((n : Int) / 2) (by omega) (by omega) hwf
      go_enter Try.func5, Try.ntmps5
      go_wp2_with fail
      refine (first2_any w).mono ?_
      rintro e w1 ⟨rfl, rfl⟩
      go_wp2_with fail
      refine (bytes_any A n c l w hr hll).mono ?_
      rintro e w1 ⟨v1, rfl, hown1, hbel1⟩
      obtain ⟨A1, c1, rfl, hc1, hC1⟩ := Kd.R_reads hown1
      have hr1 := Kd.C_below hr hbel1
      go_wp2_with fail
      refine (of_any A n c l w1 hr1 hb hll).mono ?_
      rintro e w2 ⟨rfl, rfl⟩
      go_wp2_with fail
      refine (HNum.out w1).mono ?_
      rintro e w2 ⟨rfl, rfl⟩
      go_wp2_with fail
      refine (put_any A n c l (2 * (q : Int)) w1 hr1 hb hll).mono ?_
      rintro e w2 ⟨v2, rfl, hown2, hbel2⟩
      have hpl : (putL l (2 * (q : Int))).length = n := by rw [putL_length, hlen.out]
      obtain ⟨g, cap, rfl, hg⟩ := R_form hown2 (by omega)
      rw [hpl] at hown2 ⊢
      clear hown1 hr
      have HP := Aside0.mk hpl
      have hgs := hbel2.size
      clear hpl
      go_wp2
      go_loopg [9] n (fun k i wr => ∃ (j : Nat) (xs : List Int), j + k = n ∧ i = .int .i64 j ∧ (Kd.int .u8).R 5 wr w1.heap.size (fun _ => True) (.slice (some ⟨g, 0, none⟩) n cap) xs ∧ Aside0 (xs.length = n) ∧ Below w1.heap.size w1 wr)
      case atStart => exact ⟨0, _, by omega, rfl, hown2, HP, hbel2⟩
      case round =>
        obtain ⟨j, xs, hj, rfl, hown, HX, hbel⟩ := hrel
        by_cases hlt : j < n
        · obtain ⟨q0, f0⟩ := R_nat hown HX.out j hlt
          obtain ⟨u, hu⟩ : ∃ u, u = xs.getD j 0 := ⟨_, rfl⟩
          rw [← hu] at q0
          clear hu
          go_wp2
          go_roundg (gk - 1)
          case measure => omega
          case rel => exact ⟨j + 1, _, by omega, by go_num, R_putn hown HX.out j _, ⟨by rw [List.length_set]; exact HX.out⟩, hbel.setCell hg _⟩
        · go_wp2_with fail
          have hr3 := Kd.C_below hr1 hbel
          have hC3 := Kd.C_below hC1 hbel
          have hb3 := below_then hbel1 hbel1.size hbel
          clear hr1 hC1 hbel1 hbel hown hown2 hbel2
          refine (same_any A A1 _ _ c c1 l l wr hr3 hC3 hll).mono ?_
          rintro e w3 ⟨rfl, hd⟩
          have hr4 := Kd.C_below hr3 hd.below
          have hb4 := below_then hb3 hb3.size hd.below
          clear hd hr3 hC3 hb3
          go_wp2_with fail
          refine (of_any A n c l w3 hr4 hb hll).mono ?_
          rintro e w4 ⟨rfl, rfl⟩
          go_wp2_with fail
          go_ret
          exact ⟨rfl, hb4⟩
end Go.Proofs.Ytbgbplbkombfjaa
