/- rivuletref.SameBytes, rivuletworld.Number. -/
import Derived.Test.YtbgbplbkombfjaaDoorOwn
namespace Go.Proofs.YtbgbplbkombfjaaDoor
open Go.RowKit Go.Proofs.YtbgbplbkombfjaaDoorW.PrintWords
set_option linter.unusedVariables false
set_option linter.unusedSimpArgs false
theorem same_step (a b : List Int) (j : Nat) (h : a.length = b.length) (hj : j < a.length) (ht : a.take j = b.take j) (he : a.getD j 0 = b.getD j 0) : a.take (j + 1) = b.take (j + 1) := by
  rw [List.take_succ_eq_append_getElem hj, List.take_succ_eq_append_getElem (by omega), ht]
  congr 2
  simpa [List.getD_eq_getElem?_getD, List.getElem?_eq_getElem hj, List.getElem?_eq_getElem (show j < b.length by omega)] using he
theorem same_not (a b : List Int) (j : Nat) (he : a.getD j 0 ≠ b.getD j 0) : decide (a = b) = false := by
  rw [decide_eq_false_iff_not]; rintro rfl; exact he rfl
set_option maxHeartbeats 400000 in
theorem same_any (A0 A1 : Option Addr) (n0 n1 c0 c1 : Nat) (l0 l1 : List Int) (w : World) (h0 : Kd.C (Kd.int .u8) w A0 n0 l0) (h1 : Kd.C (Kd.int .u8) w A1 n1 l1) (hl : l0.length ≤ 1000000) :
    Calls Tryd.prog 21 #[.slice A0 n0 c0, .slice A1 n1 c1] w fun e w' => e = .returned (.bool (decide (l0 = l1))) ∧ Drawn0 w w' := by
  obtain rfl := h0.1
  obtain rfl := h1.1
  by_cases hne : l0.length = l1.length
  · obtain ⟨n, hn0⟩ : ∃ n, l0.length = n := ⟨_, rfl⟩
    have hn1 : l1.length = n := by omega
    rw [hn0] at h0 hl ⊢
    rw [hn1] at h1 ⊢
    have H0 := Aside0.mk hn0
    have H1 := Aside0.mk hn1
    clear hn0 hn1 hne
    go_enter Tryd.func21, Tryd.ntmps21
    go_wp2
    go_loopg [5] n (fun k i w' => ∃ j : Nat, j + k = n ∧ i = .int .i64 j ∧ Aside0 (l0.take j = l1.take j) ∧ Drawn0 w w')
    case atStart => exact ⟨0, by omega, rfl, ⟨rfl⟩, Drawn0.refl _⟩
    case round =>
      obtain ⟨j, hj, rfl, HT, ⟨m1, rfl⟩⟩ := hrel
      by_cases hlt : j < n
      · obtain ⟨ad0, x0, rfl, hc0, HX0⟩ := at_nat h0 j hlt
        obtain ⟨ad1, x1, rfl, hc1, HX1⟩ := at_nat h1 j hlt
        by_cases hx : x0 = x1
        · have HS : Aside0 (l0.take (j + 1) = l1.take (j + 1)) := ⟨same_step _ _ j (by rw [H0.out, H1.out]) (by rw [H0.out]; exact hlt) HT.out (by rw [← HX0.out, ← HX1.out, hx])⟩
          subst hx
          go_wp2
          repeat (go_quiet (fail); try go_wp2)
          go_roundg (gk - 1)
          case rel => exact ⟨j + 1, by omega, by go_num, HS, by repeat (first | exact Drawn0.refl _ | apply Drawn0.step)⟩
          case measure => omega
        · have HN : Aside0 (decide (l0 = l1) = false) := ⟨same_not _ _ j (by rw [← HX0.out, ← HX1.out]; exact hx)⟩
          have hx2 : (x0 == x1) = false := beq_eq_false_iff_ne.mpr hx
          go_wp2
          repeat (go_quiet (fail); try go_wp2)
          go_ret
          exact ⟨ret_bool HN.out.symm, by repeat (first | exact Drawn0.refl _ | apply Drawn0.step)⟩
      · obtain rfl : j = n := by omega
        have HE : Aside0 (decide (l0 = l1) = true) := ⟨by
          have := HT.out
          rw [List.take_of_length_le (by rw [H0.out]; omega), List.take_of_length_le (by rw [H1.out]; omega)] at this
          exact decide_eq_true this⟩
        go_wp2
        go_ret
        exact ⟨ret_bool HE.out.symm, by repeat (first | exact Drawn0.refl _ | apply Drawn0.step)⟩
  · have HN : Aside0 (decide (l0 = l1) = false) := ⟨by rw [decide_eq_false_iff_not]; rintro rfl; exact hne rfl⟩
    have hb : ((l0.length : Int) == (l1.length : Int)) = false := by rw [beq_eq_false_iff_ne]; omega
    have hb2 : (l0.length == l1.length) = false := by rw [beq_eq_false_iff_ne]; exact hne
    have hb3 : ((l0.length : Int) != (l1.length : Int)) = true := by rw [bne_iff_ne]; omega
    go_enter Tryd.func21, Tryd.ntmps21
    go_wp2
    go_ret
    exact ⟨ret_bool HN.out.symm, by repeat (first | exact Drawn0.refl _ | apply Drawn0.step)⟩
theorem tmod_bd (n b : Int) (hb : 1 ≤ b) (hb2 : b ≤ 1000000) : -1000000 ≤ n.tmod b ∧ n.tmod b ≤ 1000000 := by
  have h1 := Int.tmod_lt_of_pos n (show 0 < b by omega)
  have h2 := Int.lt_tmod_of_pos n (show 0 < b by omega)
  omega
theorem tmod_emod' (n b : Int) : n.tmod b % b = n % b := by
  have h := Int.mul_tdiv_add_tmod n b
  conv => rhs; rw [← h]
  rw [Int.add_comm, Int.add_mul_emod_self_left]
theorem tmod_neg (n b : Int) (hb : 1 ≤ b) (h : n.tmod b < 0) : n.tmod b + b = n % b := by
  have h1 := Int.lt_tmod_of_pos n (show 0 < b by omega)
  have h2 := Int.emod_nonneg n (show b ≠ 0 by omega)
  have h3 := Int.emod_lt_of_pos n (show 0 < b by omega)
  have h4 : (n.tmod b + b) % b = n % b := by rw [Int.add_emod_right, tmod_emod']
  rw [← h4, Int.emod_eq_of_lt (by omega) (by omega)]
theorem tmod_pos (n b : Int) (hb : 1 ≤ b) (h : ¬ n.tmod b < 0) : n.tmod b = n % b := by
  have h1 := Int.tmod_lt_of_pos n (show 0 < b by omega)
  have h4 : (n.tmod b) % b = n % b := by rw [tmod_emod']
  rw [← h4, Int.emod_eq_of_lt (by omega) (by omega)]
set_option maxHeartbeats 400000 in
/-- A number from 0 to below a bound. -/
theorem number_any (n b : Int) (w : World) (hb : 1 ≤ b) (hb2 : b ≤ 1000000) (hn : (Lit.int .i64 n).wf = true) :
    Calls Tryd.prog 24 #[.int .i64 n, .int .i64 b] w fun e w' => e = .returned (.int .i64 (n % b)) ∧ w = w' := by
  obtain ⟨ht0, ht1⟩ := tmod_bd n b hb hb2
  by_cases h : n.tmod b < 0
  · have HR := Aside0.mk (tmod_neg n b hb h)
    go_enter Tryd.func24, Tryd.ntmps24
    go_wp2
    go_ret
    exact ⟨ret_int HR.out, rfl⟩
  · have HR := Aside0.mk (tmod_pos n b hb h)
    go_enter Tryd.func24, Tryd.ntmps24
    go_wp2
    go_ret
    exact ⟨ret_int HR.out, rfl⟩
end Go.Proofs.YtbgbplbkombfjaaDoor
