/- What sum.Of comes to, at whatever bytes. -/
import Derived.Test.YtbgbplbkombfjaaDoorProg
import Derived.Test.YtbgbplbkombfjaaDoorSumPlain
import Derived.Test.YtbgbplbkombfjaaDoorOwn
namespace Go.Proofs.YtbgbplbkombfjaaDoor
open Go.RowKit Go.Proofs.YtbgbplbkombfjaaDoorW.PrintWords SumPlain
set_option linter.unusedVariables false
set_option linter.unusedSimpArgs false
theorem u16_not (m : Int) (h0 : 0 ≤ m) (h1 : m < 65536) : bits BinOp.xor IntKind.u16 IntKind.u16.max m = 65535 - m := by
  obtain ⟨a, rfl⟩ := Int.eq_ofNat_of_zero_le h0
  show IntKind.u16.wrap ((BitVec.ofInt 16 IntKind.u16.max ^^^ BitVec.ofInt 16 (a : Int)).toNat : Int) = _
  have h2 : BitVec.ofInt 16 IntKind.u16.max = BitVec.allOnes 16 := by decide
  rw [h2, BitVec.allOnes_xor, BitVec.toNat_not, BitVec.ofInt_natCast, BitVec.toNat_ofNat]
  simp [IntKind.wrap, IntKind.bits, IntKind.signed]
  omega
theorem fold_step (m : Int) (h0 : 0 ≤ m) (h1 : m ≤ 65280000000) : IntKind.u64.wrap (m / 65536 + IntKind.u64.wrap (IntKind.u16.wrap m)) = m / 65536 + m % 65536 := by
  simp [IntKind.wrap, IntKind.bits, IntKind.signed]
  omega
set_option maxHeartbeats 400000 in
theorem of_any (A : Option Addr) (n c : Nat) (l : List Int) (w : World) (hr : Kd.C (Kd.int .u8) w A n l) (hb : Byt l) (hl : l.length ≤ 1000000) :
    Calls Tryd.prog 61 #[.slice A n c] w fun e w' => e = .returned (.int .u16 (ofL l)) ∧ w = w' := by
  obtain rfl := hr.1
  have HR := Aside0.mk hr
  have HB := Aside0.mk hb
  clear hr hb
  go_enter Tryd.func61, Tryd.ntmps61
  go_wp2
  go_loop [3, 8] (fun n i => ∃ j : Nat, j ≤ l.length ∧ i = .int .i64 j ∧ n = .int .u64 (raw (l.take j))) (fun _ i => l.length - (intOf i).toNat)
  case atStart => exact ⟨0, Nat.zero_le _, rfl, rfl⟩
  case round =>
    obtain ⟨j, hj, rfl, rfl⟩ := hrel
    by_cases hlt : j < l.length
    · obtain ⟨ad, x, rfl, hc, HX⟩ := at_nat HR.out j hlt
      have hx : 0 ≤ x ∧ x ≤ 255 := by rw [HX.out]; exact byt_getD HB.out j
      obtain ⟨hx0, hx1⟩ := hx
      obtain ⟨hn0, hn1⟩ := raw_bd _ (byt_take HB.out j)
      have hnl : (l.take j).length ≤ j := List.length_take_le _ _
      have HS : Aside0 (raw (l.take (j + 1)) = raw (l.take j) + (if j % 2 = 0 then 256 * x else x)) := ⟨by rw [raw_take_succ l j hlt, HX.out]⟩
      obtain ⟨n, hne⟩ : ∃ n, n = raw (l.take j) := ⟨_, rfl⟩
      rw [← hne] at hn0 hn1 HS
      rw [← hne]
      clear hne HX
      by_cases hp : j % 2 = 0
      · rw [if_pos hp] at HS
        go_wp2
        go_round
        case rel => exact ⟨j + 1, by omega, by go_num, word_int (by rw [HS.out]; omega)⟩
        case measure => simp [intOf]; omega
      · rw [if_neg hp] at HS
        go_wp2
        go_round
        case rel => exact ⟨j + 1, by omega, by go_num, word_int (by rw [HS.out])⟩
        case measure => simp [intOf]; omega
    · obtain rfl : j = l.length := by omega
      rw [List.take_length]
      obtain ⟨hn0, hn1⟩ := raw_bd _ HB.out
      obtain ⟨n, hne⟩ : ∃ n, n = raw l := ⟨_, rfl⟩
      rw [← hne] at hn0 hn1
      rw [← hne]
      have HN := Aside0.mk hne
      clear hne
      go_wp2
      go_loop [3] (fun n' => ∃ m : Int, 0 ≤ m ∧ m ≤ 65280000000 ∧ n' = .int .u64 m ∧ Aside0 (fin m = fin n)) (fun n' => (intOf n').toNat)
      case atStart => exact ⟨n, hn0, by omega, rfl, ⟨rfl⟩⟩
      case round =>
        obtain ⟨m, hm0, hm1, rfl, HF⟩ := hrel
        by_cases hm : m < 65536
        · have hd : m / 65536 = 0 := by omega
          have HD := Aside0.mk hd
          clear hd
          have HE : Aside0 (ofL l = 65535 - m) := ⟨by rw [ofL, ← HN.out, ← HF.out, fin_small m hm0 (by omega)]⟩
          go_wp2
          go_ret
          exact ⟨ret_int (by rw [HE.out, u16_not m hm0 hm]), rfl⟩
        · go_wp2
          have hs := fold_step m hm0 hm1
          go_round
          case rel => exact ⟨m / 65536 + m % 65536, by omega, by omega, word_int hs, ⟨by rw [fin_fold m hm0, HF.out]⟩⟩
          case measure => rw [hs]; simp [intOf]; omega
end Go.Proofs.YtbgbplbkombfjaaDoor
