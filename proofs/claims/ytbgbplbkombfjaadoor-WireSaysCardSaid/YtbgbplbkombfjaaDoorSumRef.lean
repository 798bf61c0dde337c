/- The reference's sum: rivuletref1.Sum, rivuletref1.PutSum. -/
import Derived.Test.YtbgbplbkombfjaaDoorSumPut
namespace Go.Proofs.YtbgbplbkombfjaaDoor
open Go.RowKit Go.Proofs.YtbgbplbkombfjaaDoorW.PrintWords SumPlain
set_option linter.unusedVariables false
set_option linter.unusedSimpArgs false
/-- One round of the reference's: what is kept folds as what was weighed. -/
theorem ref_step (n x r : Int) (hn : 0 ≤ n ∧ n ≤ 65536) (hx : 0 ≤ x ∧ x ≤ 65280) (hr : 0 ≤ r) (h0 : n = 0 ↔ r = 0) (hm : n % 65535 = r % 65535) :
    (0 ≤ (n + x) % 65536 + (n + x) / 65536 ∧ (n + x) % 65536 + (n + x) / 65536 ≤ 65536) ∧ ((n + x) % 65536 + (n + x) / 65536 = 0 ↔ r + x = 0) ∧ ((n + x) % 65536 + (n + x) / 65536) % 65535 = (r + x) % 65535 := by omega
theorem ref_end (n r : Int) (hn : 0 ≤ n ∧ n ≤ 65536) (hr : 0 ≤ r) (h0 : n = 0 ↔ r = 0) (hm : n % 65535 = r % 65535) : n % 65536 + n / 65536 = fin r := by
  unfold fin; split <;> omega
theorem u32_low (m : Int) (h0 : 0 ≤ m) (h1 : m < 4294967296) : bits BinOp.and IntKind.u32 m 65535 = m % 65536 := by
  obtain ⟨a, rfl⟩ := Int.eq_ofNat_of_zero_le h0
  show IntKind.u32.wrap ((BitVec.ofInt 32 (a : Int) &&& BitVec.ofInt 32 65535).toNat : Int) = _
  rw [BitVec.toNat_and, BitVec.ofInt_natCast, BitVec.toNat_ofNat, show (BitVec.ofInt 32 65535).toNat = 2 ^ 16 - 1 from by decide, Nat.and_two_pow_sub_one_eq_mod]
  simp [IntKind.wrap, IntKind.bits, IntKind.signed]
  omega
theorem u32_fold (m : Int) (h0 : 0 ≤ m) (h1 : m ≤ 200000) : IntKind.u32.wrap (bits BinOp.and IntKind.u32 m 65535 + m / 65536) = m % 65536 + m / 65536 := by
  rw [u32_low m h0 (by omega)]
  simp [IntKind.wrap, IntKind.bits, IntKind.signed]
  omega
theorem u32_fold' (m : Int) (h0 : 0 ≤ m) (h1 : m ≤ 200000) : (bits BinOp.and IntKind.u32 m 65535 + m / 65536) % 4294967296 = m % 65536 + m / 65536 := by
  rw [u32_low m h0 (by omega)]
  omega
theorem u16_of (m : Int) (h0 : 0 ≤ m) (h1 : m < 65536) : IntKind.u16.wrap m = m := by simp [IntKind.wrap, IntKind.bits, IntKind.signed]; omega
set_option maxHeartbeats 400000 in
theorem refsum_any (A : Option Addr) (n c : Nat) (l : List Int) (w : World) (hr : Kd.C (Kd.int .u8) w A n l) (hb : Byt l) (hl : l.length ≤ 1000000) :
    Calls Tryd.prog 45 #[.slice A n c] w fun e w' => e = .returned (.int .u16 (ofL l)) ∧ w = w' := by
  obtain rfl := hr.1
  have HB := Aside0.mk hb
  have HR := Aside0.mk hr
  clear hr hb
  go_enter Tryd.func45, Tryd.ntmps45
  go_wp2
  go_loop [3, 4] (fun n i => ∃ (j : Nat) (m : Int), j ≤ l.length ∧ i = .int .i64 j ∧ n = .int .u32 m ∧ 0 ≤ m ∧ m ≤ 65536 ∧ Aside0 ((m = 0 ↔ raw (l.take j) = 0) ∧ m % 65535 = raw (l.take j) % 65535)) (fun _ i => l.length - (intOf i).toNat)
  case atStart => exact ⟨0, 0, Nat.zero_le _, rfl, rfl, by omega, by omega, ⟨by simp [raw, rawAt]⟩⟩
  case round =>
    obtain ⟨j, m, hj, rfl, rfl, hm0, hm1, HM⟩ := hrel
    by_cases hlt : j < l.length
    · obtain ⟨ad, x, rfl, hc, HX⟩ := at_nat HR.out j hlt
      have hx : 0 ≤ x ∧ x ≤ 255 := by rw [HX.out]; exact byt_getD HB.out j
      obtain ⟨hx0, hx1⟩ := hx
      have HS : Aside0 (raw (l.take (j + 1)) = raw (l.take j) + (if j % 2 = 0 then 256 * x else x)) := ⟨by rw [raw_take_succ l j hlt, HX.out]⟩
      have HN : Aside0 (0 ≤ raw (l.take j)) := ⟨(raw_bd _ (byt_take HB.out j)).1⟩
      clear HX
      by_cases hp : j % 2 = 0
      · rw [if_pos hp] at HS
        go_wp2
        go_round
        case rel =>
          have hs := ref_step m (x * 256) _ ⟨hm0, hm1⟩ (by omega) HN.out HM.out.1 HM.out.2
          exact ⟨j + 1, _, by omega, by go_num, word_int (u32_fold _ (by omega) (by omega)), hs.1.1, hs.1.2, ⟨by rw [HS.out, Int.mul_comm 256 x]; exact hs.2⟩⟩
        case measure => simp [intOf]; omega
      · rw [if_neg hp] at HS
        go_wp2
        go_round
        case rel =>
          have hs := ref_step m x _ ⟨hm0, hm1⟩ (by omega) HN.out HM.out.1 HM.out.2
          exact ⟨j + 1, _, by omega, by go_num, word_int (u32_fold _ (by omega) (by omega)), hs.1.1, hs.1.2, ⟨by rw [HS.out]; exact hs.2⟩⟩
        case measure => simp [intOf]; omega
    · obtain rfl : j = l.length := by omega
      rw [List.take_length] at HM
      have HN : Aside0 (0 ≤ raw l) := ⟨(raw_bd _ HB.out).1⟩
      go_wp2
      go_ret
      refine ⟨ret_int ?_, rfl⟩
      have he := ref_end m (raw l) ⟨hm0, hm1⟩ HN.out HM.out.1 HM.out.2
      have hf := fin_bd (raw l)
      rw [u32_fold' m hm0 (by omega), he, u16_of _ (by omega) (by omega), u16_not _ (by omega) (by omega)]
      rfl
set_option maxHeartbeats 400000 in
theorem refput_bad (A : Option Addr) (n c : Nat) (l : List Int) (at_ : Int) (w : World) (hr : Kd.C (Kd.int .u8) w A n l) (hl : l.length ≤ 1000000) (h : at_ < 0 ∨ at_ % 2 ≠ 0 ∨ at_ > (l.length : Int) - 2) :
    Calls Tryd.prog 40 #[.slice A n c, .int .i64 at_] w fun e w' => ∃ v, e = .returned v ∧ (Kd.int .u8).R 5 w' w.heap.size (fun _ => True) v l ∧ Below w.heap.size w w' := by
  obtain rfl := hr.1
  by_cases h0 : at_ < 0
  · clear h
    go_enter Tryd.func40, Tryd.ntmps40
    go_wp2_with (go_at_call 23; refine (bytes_any A _ c l w hr hl).mono ?_; rintro e w1 ⟨v, rfl, hown, hbel⟩)
    go_ret
    exact ⟨_, rfl, hown, hbel⟩
  · have h0' : 0 ≤ at_ := by omega
    by_cases h1 : at_ % 2 = 0
    · have h2 : (l.length : Int) - 2 < at_ := by omega
      clear h h0
      go_enter Tryd.func40, Tryd.ntmps40
      go_wp2_with (go_at_call 23; refine (bytes_any A _ c l w hr hl).mono ?_; rintro e w1 ⟨v, rfl, hown, hbel⟩)
      go_ret
      exact ⟨_, rfl, hown, hbel⟩
    · clear h h0
      go_enter Tryd.func40, Tryd.ntmps40
      go_wp2_with (go_at_call 23; refine (bytes_any A _ c l w hr hl).mono ?_; rintro e w1 ⟨v, rfl, hown, hbel⟩)
      go_ret
      exact ⟨_, rfl, hown, hbel⟩
set_option maxHeartbeats 400000 in
theorem refput_good (A : Option Addr) (n c : Nat) (l : List Int) (a : Nat) (w : World) (hr : Kd.C (Kd.int .u8) w A n l) (hb : Byt l) (hl : l.length ≤ 1000000) (h : a % 2 = 0) (ha : a + 2 ≤ l.length) :
    Calls Tryd.prog 40 #[.slice A n c, .int .i64 a] w fun e w' => ∃ v, e = .returned v ∧ (Kd.int .u8).R 5 w' w.heap.size (fun _ => True) v (putL l a) ∧ Below w.heap.size w w' := by
  obtain rfl := hr.1
  go_enter Tryd.func40, Tryd.ntmps40
  go_wp2_with (go_at_call 23; refine (bytes_any A _ c l w hr hl).mono ?_; rintro e w1 ⟨v, rfl, hown, hbel⟩; obtain ⟨g, cap, rfl, hg⟩ := R_form hown (by omega); obtain ⟨q0, f0⟩ := R_nat hown rfl a (by omega); obtain ⟨q1, f1⟩ := R_nat hown rfl (a + 1) (by omega))
  have hw2 := R_putn (R_putn hown rfl a 0) (by simp) (a + 1) 0
  have hof := refsum_any (some ⟨g, 0, none⟩) l.length cap (zeroL l a) _ (R_C hw2).2 (zeroL_byt hb a) (by rw [zeroL_length]; exact hl)
  refine hof.mono ?_
  clear hof
  rintro e w2 ⟨rfl, rfl⟩
  go_wp2
  go_ret
  refine ⟨_, rfl, ?_, (((hbel.setCell hg _).setCell hg _).setCell hg _).setCell hg _⟩
  rw [putL_good l a h ha]
  exact R_putn (R_putn hw2 (by simp) a _) (by simp) (a + 1) _
theorem refput_any (A : Option Addr) (n c : Nat) (l : List Int) (at_ : Int) (w : World) (hr : Kd.C (Kd.int .u8) w A n l) (hb : Byt l) (hl : l.length ≤ 1000000) :
    Calls Tryd.prog 40 #[.slice A n c, .int .i64 at_] w fun e w' => ∃ v, e = .returned v ∧ (Kd.int .u8).R 5 w' w.heap.size (fun _ => True) v (putL l at_) ∧ Below w.heap.size w w' := by
  by_cases h : at_ < 0 ∨ at_ % 2 ≠ 0 ∨ at_ > (l.length : Int) - 2
  · rw [putL_bad l at_ h]
    exact refput_bad A n c l at_ w hr hl h
  · obtain ⟨a, rfl⟩ := Int.eq_ofNat_of_zero_le (show 0 ≤ at_ by omega)
    exact refput_good A n c l a w hr hb hl (by omega) (by omega)
end Go.Proofs.YtbgbplbkombfjaaDoor
