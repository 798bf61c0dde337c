/- Addresses and numbers as bytes: addr.Bytes, addr.Of, addr.Group and the reference's. -/
import Derived.Test.YtbgbplbkombfjaaDoorBytesRef
import Derived.BigQuiet
import Derived.Handy
namespace Go.Proofs.YtbgbplbkombfjaaDoor
open Go.RowKit Go.Proofs.YtbgbplbkombfjaaDoorW.PrintWords SumPlain
set_option linter.unusedVariables false
set_option linter.unusedSimpArgs false
/-- An address's bytes, the highest first. -/
def adB (a : Int) : List Int := [a / 16777216, a / 65536 % 256, a / 256 % 256, a % 256]
abbrev adC (a : Int) : Array Value := #[.int .u8 (a / 16777216), .int .u8 (a / 65536 % 256), .int .u8 (a / 256 % 256), .int .u8 (a % 256)]
abbrev adV (a : Int) : Value := .agg (adC a)
theorem or_i (k : IntKind) (bw : Nat) (s : Nat) (hk : ∀ a b : Int, bits BinOp.or k a b = k.wrap ((BitVec.ofInt bw a ||| BitVec.ofInt bw b).toNat : Int)) (a : Nat) (b : Nat) (hb : b < 2 ^ s) (h : 2 ^ s * a + b < 2 ^ bw) :
    bits BinOp.or k ((2 ^ s * a : Nat) : Int) (b : Int) = k.wrap ((2 ^ s * a + b : Nat) : Int) := by
  rw [hk, BitVec.toNat_or, BitVec.ofInt_natCast, BitVec.ofInt_natCast, BitVec.toNat_ofNat, BitVec.toNat_ofNat, Nat.mod_eq_of_lt (by omega), Nat.mod_eq_of_lt (by omega), ← Nat.two_pow_add_eq_or_of_lt hb]
theorem wrap_u32 (m : Nat) (h : m < 2 ^ 32) : IntKind.u32.wrap (m : Int) = m := by simp [IntKind.wrap, IntKind.bits, IntKind.signed]; omega
theorem wrap_i64 (m : Nat) (h : m < 2 ^ 62) : IntKind.i64.wrap (m : Int) = m := by simp [IntKind.wrap, IntKind.bits, IntKind.signed]; omega
theorem or_u32 (s : Nat) (a b : Int) (ha : 0 ≤ a) (hb : 0 ≤ b) (hb2 : b < ((2 ^ s : Nat) : Int)) (h : a * ((2 ^ s : Nat) : Int) + b < 4294967296) : bits BinOp.or IntKind.u32 (a * ((2 ^ s : Nat) : Int)) b = a * ((2 ^ s : Nat) : Int) + b := by
  obtain ⟨a, rfl⟩ := Int.eq_ofNat_of_zero_le ha
  obtain ⟨b, rfl⟩ := Int.eq_ofNat_of_zero_le hb
  have e : ((2 ^ s * a + b : Nat) : Int) = (a : Int) * ((2 ^ s : Nat) : Int) + (b : Int) := by rw [Int.natCast_add, Int.natCast_mul, Int.mul_comm]
  have h' : 2 ^ s * a + b < 2 ^ 32 := by omega
  rw [show (a : Int) * ((2 ^ s : Nat) : Int) = ((2 ^ s * a : Nat) : Int) by rw [Int.natCast_mul, Int.mul_comm], or_i IntKind.u32 32 s (fun _ _ => rfl) a b (by omega) h', wrap_u32 _ h', Int.natCast_add]
theorem or_i64 (s : Nat) (a b : Int) (ha : 0 ≤ a) (hb : 0 ≤ b) (hb2 : b < ((2 ^ s : Nat) : Int)) (h : a * ((2 ^ s : Nat) : Int) + b < 4294967296) : bits BinOp.or IntKind.i64 (a * ((2 ^ s : Nat) : Int)) b = a * ((2 ^ s : Nat) : Int) + b := by
  obtain ⟨a, rfl⟩ := Int.eq_ofNat_of_zero_le ha
  obtain ⟨b, rfl⟩ := Int.eq_ofNat_of_zero_le hb
  have e : ((2 ^ s * a + b : Nat) : Int) = (a : Int) * ((2 ^ s : Nat) : Int) + (b : Int) := by rw [Int.natCast_add, Int.natCast_mul, Int.mul_comm]
  have h' : 2 ^ s * a + b < 2 ^ 32 := by omega
  rw [show (a : Int) * ((2 ^ s : Nat) : Int) = ((2 ^ s * a : Nat) : Int) by rw [Int.natCast_mul, Int.mul_comm], or_i IntKind.i64 64 s (fun _ _ => rfl) a b (by omega) (by omega), wrap_i64 _ (by omega), Int.natCast_add]
theorem or32_8 (a b : Int) (ha : 0 ≤ a) (hb : 0 ≤ b) (hb2 : b ≤ 255) (h : a * 256 + b < 4294967296) : bits BinOp.or IntKind.u32 (a * 256) b = a * 256 + b := or_u32 8 a b ha hb (by omega) (by omega)
theorem or32_16 (a b : Int) (ha : 0 ≤ a) (hb : 0 ≤ b) (hb2 : b < 65536) (h : a * 65536 + b < 4294967296) : bits BinOp.or IntKind.u32 (a * 65536) b = a * 65536 + b := or_u32 16 a b ha hb (by omega) (by omega)
theorem or32_24 (a b : Int) (ha : 0 ≤ a) (hb : 0 ≤ b) (hb2 : b < 16777216) (h : a * 16777216 + b < 4294967296) : bits BinOp.or IntKind.u32 (a * 16777216) b = a * 16777216 + b := or_u32 24 a b ha hb (by omega) (by omega)
theorem or64_8 (a b : Int) (ha : 0 ≤ a) (ha2 : a ≤ 255) (hb : 0 ≤ b) (hb2 : b ≤ 255) : bits BinOp.or IntKind.i64 (a * 256) b = a * 256 + b := or_i64 8 a b ha hb (by omega) (by omega)
set_option maxHeartbeats 400000 in
theorem addrBytes_any (a : Int) (w : World) (h0 : 0 ≤ a) (h1 : a < 4294967296) :
    Calls Tryd.prog 37 #[.int .u32 a] w fun e w' => e = .returned (adV a) ∧ w' = (w.alloc (.cells (adC a) 73)).alloc (.cells (adC a) 73) := by
  have hu := Tryd.underlying73
  go_enter Tryd.func37, Tryd.ntmps37
  go_wp2
  go_rounds 5
  go_returns
  exact ⟨rfl, rfl⟩
theorem ret_u32 {a b : Int} (h : a = b) : Ending.returned (.int .u32 a) = .returned (.int .u32 b) := by rw [h]
theorem of_step (a b : Int) (ha : 0 ≤ a) (ha2 : a < 16777216) (hb : 0 ≤ b) (hb2 : b ≤ 255) : bits BinOp.or IntKind.u32 (a * 256) b = a * 256 + b := or32_8 a b ha hb hb2 (by omega)
/-- The address of four bytes. -/
def adOf (b0 b1 b2 b3 : Int) : Int := ((b0 * 256 + b1) * 256 + b2) * 256 + b3
set_option maxHeartbeats 400000 in
set_option maxRecDepth 100000 in
theorem addrOf_any (b0 b1 b2 b3 : Int) (w : World) (h0 : 0 ≤ b0) (h0' : b0 ≤ 255) (h1 : 0 ≤ b1) (h1' : b1 ≤ 255) (h2 : 0 ≤ b2) (h2' : b2 ≤ 255) (h3 : 0 ≤ b3) (h3' : b3 ≤ 255) :
    Calls Tryd.prog 44 #[.agg #[.int .u8 b0, .int .u8 b1, .int .u8 b2, .int .u8 b3]] w fun e w' => e = .returned (.int .u32 (adOf b0 b1 b2 b3)) ∧ w' = w.alloc (.cells #[.int .u8 b0, .int .u8 b1, .int .u8 b2, .int .u8 b3] 73) := by
  have hu := Tryd.underlying73
  have e1 := of_step b0 b1 (by omega) (by omega) (by omega) (by omega)
  have e2 := of_step (b0 * 256 + b1) b2 (by omega) (by omega) (by omega) (by omega)
  have e3 := of_step ((b0 * 256 + b1) * 256 + b2) b3 (by omega) (by omega) (by omega) (by omega)
  have e0 : bits BinOp.or IntKind.u32 0 b0 = b0 := by have := of_step 0 b0 (by omega) (by omega) (by omega) (by omega); simpa using this
  have i0 : ∀ w, (Instr.index 73 (.agg #[.int .u8 b0, .int .u8 b1, .int .u8 b2, .int .u8 b3]) (.int .i64 0)).run Tryd.prog w = .ok (.int .u8 b0) w := fun _ => by kernel_rfl
  have i1 : ∀ w, (Instr.index 73 (.agg #[.int .u8 b0, .int .u8 b1, .int .u8 b2, .int .u8 b3]) (.int .i64 1)).run Tryd.prog w = .ok (.int .u8 b1) w := fun _ => by kernel_rfl
  have i2 : ∀ w, (Instr.index 73 (.agg #[.int .u8 b0, .int .u8 b1, .int .u8 b2, .int .u8 b3]) (.int .i64 2)).run Tryd.prog w = .ok (.int .u8 b2) w := fun _ => by kernel_rfl
  have i3 : ∀ w, (Instr.index 73 (.agg #[.int .u8 b0, .int .u8 b1, .int .u8 b2, .int .u8 b3]) (.int .i64 3)).run Tryd.prog w = .ok (.int .u8 b3) w := fun _ => by kernel_rfl
  go_enter Tryd.func44, Tryd.ntmps44
  go_wp2
  go_rounds 5
  go_returns
  exact ⟨rfl, rfl⟩
/-- A number of two bytes. -/
def nuB (n : Int) : List Int := [n / 256, n % 256]
set_option maxHeartbeats 400000 in
set_option maxRecDepth 100000 in
theorem two_any (A : Option Addr) (n c : Nat) (l : List Int) (x : Int) (w : World) (hr : Kd.C (Kd.int .u8) w A n l) (hl : l.length ≤ 900000) (h0 : 0 ≤ x) (h1 : x < 65536) :
    Calls Tryd.prog 39 #[.slice A n c, .int .i64 x] w fun e w' => ∃ v, e = .returned v ∧ (Kd.int .u8).R 5 w' w.heap.size (fun _ => True) v (l ++ nuB x) ∧ Below w.heap.size w w' := by
  go_enter Tryd.func39, Tryd.ntmps39
  go_wp2_with fail
  refine (bytes_any A n c l w hr (by omega)).mono ?_
  rintro e w1 ⟨v, rfl, hown, hbel⟩
  have hC2 := lit_C .u8 w1 5 (nuB x) (by simp [nuB])
  go_wp2_with (at_builtin; refine Kd.R_append_row (w0 := w) (Value.int .u8) 0 w.heap.size rfl (.tmp 6) (.tmp 12) 26 5 (.int .u8 0) 1 rfl Tryd.underlying26 Tryd.infoB rfl (by decide) v l (nuB x) (some ⟨w1.heap.size, 0, none⟩) 2 2 (fun _ => True) rfl rfl (fun _ _ => trivial) (Kd.R_alloc hown _) hC2 (hbel.alloc hbel.size _) ?c5 ?c6 ?_)
  case c5 => simp; exact Nat.le_succ_of_le hbel.size
  case c6 => omega
  intro v1 w2 hown1 hbel1 _ _
  go_wp2
  go_ret
  exact ⟨_, rfl, hown1, hbel1⟩
set_option maxHeartbeats 400000 in
set_option maxRecDepth 100000 in
theorem four_any (A : Option Addr) (n c : Nat) (l : List Int) (x : Int) (w : World) (hr : Kd.C (Kd.int .u8) w A n l) (hl : l.length ≤ 900000) (h0 : 0 ≤ x) (h1 : x < 4294967296) :
    Calls Tryd.prog 41 #[.slice A n c, .int .u32 x] w fun e w' => ∃ v, e = .returned v ∧ (Kd.int .u8).R 5 w' w.heap.size (fun _ => True) v (l ++ adB x) ∧ Below w.heap.size w w' := by
  go_enter Tryd.func41, Tryd.ntmps41
  go_wp2_with fail
  refine (bytes_any A n c l w hr (by omega)).mono ?_
  rintro e w1 ⟨v, rfl, hown, hbel⟩
  have hC2 := lit_C .u8 w1 5 (adB x) (by simp [adB])
  go_wp2_with (at_builtin; refine Kd.R_append_row (w0 := w) (Value.int .u8) 0 w.heap.size rfl (.tmp 6) (.tmp 18) 26 5 (.int .u8 0) 1 rfl Tryd.underlying26 Tryd.infoB rfl (by decide) v l (adB x) (some ⟨w1.heap.size, 0, none⟩) 4 4 (fun _ => True) rfl rfl (fun _ _ => trivial) (Kd.R_alloc hown _) hC2 (hbel.alloc hbel.size _) ?c5 ?c6 ?_)
  case c5 => simp; exact Nat.le_succ_of_le hbel.size
  case c6 => omega
  intro v1 w2 hown1 hbel1 _ _
  go_wp2
  go_ret
  exact ⟨_, rfl, hown1, hbel1⟩
theorem or24_16 (b0 b1 : Int) (h0 : 0 ≤ b0) (h0' : b0 ≤ 255) (h1 : 0 ≤ b1) (h1' : b1 ≤ 255) : bits BinOp.or IntKind.u32 (b0 * 16777216) (b1 * 65536) = b0 * 16777216 + b1 * 65536 := or32_24 b0 (b1 * 65536) (by omega) (by omega) (by omega) (by omega)
theorem or24_8 (b0 b1 b2 : Int) (h0 : 0 ≤ b0) (h0' : b0 ≤ 255) (h1 : 0 ≤ b1) (h1' : b1 ≤ 255) (h2 : 0 ≤ b2) (h2' : b2 ≤ 255) : bits BinOp.or IntKind.u32 (b0 * 16777216 + b1 * 65536) (b2 * 256) = b0 * 16777216 + b1 * 65536 + b2 * 256 := by
  have := or32_16 (b0 * 256 + b1) (b2 * 256) (by omega) (by omega) (by omega) (by omega)
  rwa [show (b0 * 256 + b1) * 65536 = b0 * 16777216 + b1 * 65536 by omega] at this
theorem or24_0 (b0 b1 b2 b3 : Int) (h0 : 0 ≤ b0) (h0' : b0 ≤ 255) (h1 : 0 ≤ b1) (h1' : b1 ≤ 255) (h2 : 0 ≤ b2) (h2' : b2 ≤ 255) (h3 : 0 ≤ b3) (h3' : b3 ≤ 255) : bits BinOp.or IntKind.u32 (b0 * 16777216 + b1 * 65536 + b2 * 256) b3 = adOf b0 b1 b2 b3 := by
  have := or32_8 ((b0 * 256 + b1) * 256 + b2) b3 (by omega) (by omega) (by omega) (by omega)
  rwa [show ((b0 * 256 + b1) * 256 + b2) * 256 = b0 * 16777216 + b1 * 65536 + b2 * 256 by omega, ← show ((b0 * 256 + b1) * 256 + b2) * 256 + b3 = b0 * 16777216 + b1 * 65536 + b2 * 256 + b3 by omega] at this
theorem add_pos (ad : Addr) (m : Nat) (hm : 0 < m) : ad.add m = ⟨ad.block, ad.off + m, none⟩ := by unfold Addr.add; split <;> simp_all
theorem u32_byte (b : Int) (h0 : 0 ≤ b) (h1 : b ≤ 255) : IntKind.u32.wrap b = b ∧ IntKind.u32.wrap (b * 256) = b * 256 ∧ IntKind.u32.wrap (b * 65536) = b * 65536 ∧ IntKind.u32.wrap (b * 16777216) = b * 16777216 := by
  refine ⟨IntWalk.u32_in _ (by omega), IntWalk.u32_in _ (by omega), IntWalk.u32_in _ (by omega), IntWalk.u32_in _ (by omega)⟩
/-- The address that stands in bytes at a place. -/
def adAt (l : List Int) (i : Nat) : Int := adOf (l.getD i 0) (l.getD (i + 1) 0) (l.getD (i + 2) 0) (l.getD (i + 3) 0)
set_option maxHeartbeats 1000000 in
set_option maxRecDepth 100000 in
theorem at_any (A : Option Addr) (n c : Nat) (l : List Int) (j : Int) (i : Nat) (hj : j = (i : Int)) (hi : i + 4 ≤ n) (w : World) (hr : Kd.C (Kd.int .u8) w A n l) (hb : Byt l) (hl : l.length ≤ 1000000) :
    Calls Tryd.prog 25 #[.slice A n c, .int .i64 j] w fun e w' => e = .returned (.int .u32 (adAt l i)) ∧ Drawn0 w w' := by
  subst hj
  have hn := hr.1
  have HN := Aside0.mk hn
  have hlt : n ≤ 1000000 := by omega
  clear hn
  obtain ⟨ad, b0, rfl, c0, X0⟩ := at_nat hr i (by omega)
  obtain ⟨_, b1, he, c1, X1⟩ := at_nat hr (i + 1) (by omega)
  obtain rfl := Option.some.inj he
  obtain ⟨_, b2, he, c2, X2⟩ := at_nat hr (i + 2) (by omega)
  obtain rfl := Option.some.inj he
  obtain ⟨_, b3, he, c3, X3⟩ := at_nat hr (i + 3) (by omega)
  obtain rfl := Option.some.inj he
  have a0 := byt_getD hb i
  have a1 := byt_getD hb (i + 1)
  have a2 := byt_getD hb (i + 2)
  have a3 := byt_getD hb (i + 3)
  rw [← X0.out] at a0
  rw [← X1.out] at a1
  rw [← X2.out] at a2
  rw [← X3.out] at a3
  obtain ⟨a0, a0'⟩ := a0
  obtain ⟨a1, a1'⟩ := a1
  obtain ⟨a2, a2'⟩ := a2
  obtain ⟨a3, a3'⟩ := a3
  have E1 := or24_16 b0 b1 a0 a0' a1 a1'
  have E2 := or24_8 b0 b1 b2 a0 a0' a1 a1' a2 a2'
  have E3 := or24_0 b0 b1 b2 b3 a0 a0' a1 a1' a2 a2' a3 a3'
  obtain ⟨p0, _, _, p1⟩ := u32_byte b0 a0 a0'
  obtain ⟨q0, _, q1, _⟩ := u32_byte b1 a1 a1'
  obtain ⟨r0, r1, _, _⟩ := u32_byte b2 a2 a2'
  obtain ⟨s0, _, _, _⟩ := u32_byte b3 a3 a3'
  have w1 : IntKind.i64.wrap ((i : Int) + 1) = (i : Int) + 1 := IntWalk.i64_in _ (by omega)
  have w2 : IntKind.i64.wrap ((i : Int) + 2) = (i : Int) + 2 := IntWalk.i64_in _ (by omega)
  have w3 : IntKind.i64.wrap ((i : Int) + 3) = (i : Int) + 3 := IntWalk.i64_in _ (by omega)
  have k0 : (0 : Int) ≤ i := by omega
  have k1 : (i : Int) < n := by omega
  have k2 : (i : Int) + 1 < n := by omega
  have k3 : (i : Int) + 2 < n := by omega
  have k4 : (i : Int) + 3 < n := by omega
  have k5 : (0 : Int) ≤ i + 1 := by omega
  have k6 : (0 : Int) ≤ i + 2 := by omega
  have k7 : (0 : Int) ≤ i + 3 := by omega
  rw [add_pos ad (i + 1) (by omega)] at c1
  rw [add_pos ad (i + 2) (by omega)] at c2
  rw [add_pos ad (i + 3) (by omega)] at c3
  have HE : Aside0 (adOf b0 b1 b2 b3 = adAt l i) := ⟨by unfold adAt; rw [← X0.out, ← X1.out, ← X2.out, ← X3.out]⟩
  clear hr hb hl X0 X1 X2 X3
  go_enter Tryd.func25, Tryd.ntmps25
  go_wp2
  go_quiet (fail)
  go_wp2
  go_ret
  exact ⟨ret_u32 HE.out, by repeat (first | exact Drawn0.refl _ | apply Drawn0.step)⟩
end Go.Proofs.YtbgbplbkombfjaaDoor
