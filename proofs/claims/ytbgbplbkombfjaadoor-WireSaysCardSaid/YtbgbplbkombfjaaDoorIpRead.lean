/- ip.Read. -/
import Derived.Test.YtbgbplbkombfjaaDoorIpBytes
namespace Go.Proofs.YtbgbplbkombfjaaDoor
open Go.RowKit Go.Proofs.YtbgbplbkombfjaaDoorW.PrintWords SumPlain
set_option linter.unusedVariables false
set_option linter.unusedSimpArgs false
theorem setCell_drewN (w : World) (n : Nat) (a : Addr) (v : Value) : (w.drewN n).setCell a v = (w.setCell a v).drewN n := rfl
theorem alloc_drewN (w : World) (n : Nat) (o : Obj) : (w.drewN n).alloc o = (w.alloc o).drewN n := rfl
attribute [local go_sem] setCell_drewN alloc_drewN
theorem cut_mid {P : Program} (t e : TypeId) (kl kh : IntKind) {z : Value} {bytes : Nat} (ht : P.underlying t = some (.slice e)) (hinfo : (P.info? e).map (fun i => (i.zero, i.size, i.bytes)) = some (some z, 1, bytes)) (ad : Addr) (n c : Nat) (lo hi : Int) (a b : Nat) (hlo : lo = (a : Int)) (hhi : hi = (b : Int)) (h0 : 0 < a) (h1 : a ≤ b) (h2 : b ≤ c) (h3 : a < c) :
    ∀ W : World, (Instr.slice t (.slice (some ad) n c) (some (.int kl lo)) (some (.int kh hi)) none).run P W = .ok (.slice (some ⟨ad.block, ad.off + a, none⟩) (b - a) (c - a)) W := by
  intro W
  subst hlo hhi
  obtain ⟨i, hi, _, hsz, _⟩ := info_parts hinfo
  have hel : P.elem t = e := by simp [Program.elem, ht]
  have hu : P.underlying t = some (.slice (P.elem t)) := by rw [hel]; exact ht
  rw [run_slice_lh W t (some ad) n c hu kl kh a b (by omega) (by omega) (by omega), hel]
  have hne : ¬ c = a := by omega
  simp [sizeOf, typeInfo, hi, hsz, sliced, Result.andThen, hne, add_pos ad a h0]
/-- A number of two bytes that stands in bytes at a place. -/
def nuAt (l : List Int) (i : Nat) : Int := l.getD i 0 * 256 + l.getD (i + 1) 0
theorem i64_byte (b : Int) (h0 : 0 ≤ b) (h1 : b ≤ 255) : IntKind.i64.wrap b = b ∧ IntKind.i64.wrap (b * 256) = b * 256 :=
  ⟨IntWalk.i64_in _ (by omega), IntWalk.i64_in _ (by omega)⟩
set_option maxHeartbeats 1000000 in
set_option maxRecDepth 100000 in
theorem word_any (A : Option Addr) (n c : Nat) (l : List Int) (j : Int) (i : Nat) (hj : j = (i : Int)) (hi : i + 2 ≤ n) (w : World) (hr : Kd.C (Kd.int .u8) w A n l) (hb : Byt l) (hl : l.length ≤ 1000000) :
    Calls Tryd.prog 43 #[.slice A n c, .int .i64 j] w fun e w' => e = .returned (.int .i64 (nuAt l i)) ∧ ∃ m, w' = w.drewN m := by
  subst hj
  have hn := hr.1
  have HN := Aside0.mk hn
  have hlt : n ≤ 1000000 := by omega
  clear hn
  obtain ⟨ad, b0, rfl, c0, X0⟩ := at_nat hr i (by omega)
  obtain ⟨_, b1, he, c1, X1⟩ := at_nat hr (i + 1) (by omega)
  obtain rfl := Option.some.inj he
  have a0 := byt_getD hb i
  have a1 := byt_getD hb (i + 1)
  rw [← X0.out] at a0
  rw [← X1.out] at a1
  obtain ⟨a0, a0'⟩ := a0
  obtain ⟨a1, a1'⟩ := a1
  have E1 := or64_8 b0 b1 a0 a0' a1 a1'
  obtain ⟨p0, p1⟩ := i64_byte b0 a0 a0'
  obtain ⟨q0, _⟩ := i64_byte b1 a1 a1'
  have w1 : IntKind.i64.wrap ((i : Int) + 1) = (i : Int) + 1 := IntWalk.i64_in _ (by omega)
  have k0 : (0 : Int) ≤ i := by omega
  have k1 : (i : Int) < n := by omega
  have k2 : (i : Int) + 1 < n := by omega
  have k5 : (0 : Int) ≤ i + 1 := by omega
  rw [add_pos ad (i + 1) (by omega)] at c1
  have HE : Aside0 (b0 * 256 + b1 = nuAt l i) := ⟨by unfold nuAt; rw [← X0.out, ← X1.out]⟩
  clear hr hb hl X0 X1
  go_enter Tryd.func43, Tryd.ntmps43
  go_wp2
  go_quiet (fail)
  go_wp2
  go_ret
  exact ⟨ret_int HE.out, _, rfl⟩
abbrev noHdr : Hdr := ⟨0, 0, 0, 0, 0, 0⟩
/-- A header of twenty bytes; or the number of the error's variable. -/
def read20 (l : List Int) : Hdr × Option Nat :=
  if ¬ (l.getD 0 0 = 69 ∧ l.getD 1 0 = 0 ∧ l.getD 6 0 = 0 ∧ l.getD 7 0 = 0) then (noHdr, some 2)
  else if ofL l ≠ 0 then (noHdr, some 3)
  else if nuAt l 2 < 20 then (noHdr, some 0)
  else (⟨nuAt l 2, nuAt l 4, l.getD 8 0, l.getD 9 0, adAt l 12, adAt l 16⟩, none)
def readL (l : List Int) : Hdr × Option Nat := if l.length < 20 then (noHdr, some 1) else read20 (l.take 20)
def ipErrs : List Nat := [1, 2, 0, 3]
set_option maxHeartbeats 1000000 in
set_option maxRecDepth 100000 in
theorem ipRead_short (E : Nat → Addr) (A : Option Addr) (n c : Nat) (l : List Int) (w : World) (hE : Errs ipErrs E w) (hr : Kd.C (Kd.int .u8) w A n l) (hs : n < 20) :
    Calls Tryd.prog 16 #[.slice A n c] w fun e w' => e = .returned (.tuple #[.agg #[.int .i64 0, .int .i64 0, .int .i64 0, .int .i64 0, .int .u32 0, .int .u32 0], errV E (some 1)]) ∧ Below w.heap.size w w' := by
  have hu := Tryd.underlying25
  have hc := pw_cell_below (below_alloc (Below.refl w.heap.size w) (.cells #[.int .i64 0, .int .i64 0, .int .i64 0, .int .i64 0, .int .u32 0, .int .u32 0] 25)) (hE.cell 1 (by simp [ipErrs]))
  simp only [errV]
  clear hE hr
  go_enter Tryd.func16, Tryd.ntmps16
  go_wp2
  go_region
  all_goals go_wp2
  all_goals go_returns
  all_goals exact ⟨rfl, by go_grown⟩
theorem cells_of {w : World} {ad : Addr} {n : Nat} {xs : List Int} (h : Kd.C (Kd.int .u8) w (some ad) n xs) (j : Nat) (hj : j < n) (h0 : 0 < j) : w.cell? ⟨ad.block, ad.off + j, none⟩ = some (.int .u8 (xs.getD j 0)) := by
  obtain ⟨_, x, he, hc, HX⟩ := at_nat h j hj
  obtain rfl := Option.some.inj he
  rw [add_pos ad j h0, HX.out] at hc
  exact hc
theorem cell0_of {w : World} {ad : Addr} {n : Nat} {xs : List Int} (h : Kd.C (Kd.int .u8) w (some ad) n xs) (hj : 0 < n) : w.cell? ad = some (.int .u8 (xs.getD 0 0)) := by
  obtain ⟨_, x, he, hc, HX⟩ := at_nat h 0 hj
  obtain rfl := Option.some.inj he
  rw [HX.out] at hc
  rwa [show ad.add 0 = ad by unfold Addr.add; simp] at hc
set_option maxHeartbeats 1000000 in
set_option maxRecDepth 100000 in
theorem ipRead_shape (E : Nat → Addr) (A : Option Addr) (n c : Nat) (l : List Int) (w : World) (hE : Errs ipErrs E w) (hr : Kd.C (Kd.int .u8) w A 20 l) (hn : 20 ≤ n) (hle : n ≤ c) (hn2 : n ≤ 1000000) (hs : ¬ (l.getD 0 0 = 69 ∧ l.getD 1 0 = 0 ∧ l.getD 6 0 = 0 ∧ l.getD 7 0 = 0)) :
    Calls Tryd.prog 16 #[.slice A n c] w fun e w' => e = .returned (.tuple #[.agg noHdr.cells, errV E (some 2)]) ∧ Below w.heap.size w w' := by
  have hu := Tryd.underlying25
  have hcut := cut_to (P := Tryd.prog) 26 5 .i64 Tryd.underlying26 Tryd.infoB A n c 20 20 rfl (by omega)
  have hb := below_alloc (Below.refl w.heap.size w) (.cells #[.int .i64 0, .int .i64 0, .int .i64 0, .int .i64 0, .int .u32 0, .int .u32 0] 25)
  have hc := pw_cell_below hb (hE.cell 2 (by simp [ipErrs]))
  obtain ⟨ad, b0, rfl, _, _⟩ := at_nat hr 0 (by omega)
  have c0 := pw_cell_below hb (cell0_of hr (by omega))
  have c1 := pw_cell_below hb (cells_of hr 1 (by omega) (by omega))
  have c6 := pw_cell_below hb (cells_of hr 6 (by omega) (by omega))
  have c7 := pw_cell_below hb (cells_of hr 7 (by omega) (by omega))
  generalize l.getD 0 0 = b0 at *
  generalize l.getD 1 0 = b1 at *
  generalize l.getD 6 0 = b6 at *
  generalize l.getD 7 0 = b7 at *
  simp only [errV, Hdr.cells]
  clear hE hr hb
  by_cases h0 : b0 = 69
  · have h0t : (b0 != 69) = false := bne_eq_false_iff_eq.2 h0
    by_cases h1 : b1 = 0
    · have h1t : (b1 != 0) = false := bne_eq_false_iff_eq.2 h1
      by_cases h6 : b6 = 0
      · have h6t : (b6 != 0) = false := bne_eq_false_iff_eq.2 h6
        have h7 : (b7 != 0) = true := bne_iff_ne.2 fun h7 => hs ⟨h0, h1, h6, h7⟩
        clear hs h0 h1 h6
        go_enter Tryd.func16, Tryd.ntmps16
        go_wp2
        go_region
        all_goals go_wp2
        all_goals go_returns
        all_goals exact ⟨rfl, by go_grown⟩
      · have h6t : (b6 != 0) = true := bne_iff_ne.2 h6
        clear hs h0 h1 h6
        go_enter Tryd.func16, Tryd.ntmps16
        go_wp2
        go_region
        all_goals go_wp2
        all_goals go_returns
        all_goals exact ⟨rfl, by go_grown⟩
    · have h1t : (b1 != 0) = true := bne_iff_ne.2 h1
      clear hs h0 h1
      go_enter Tryd.func16, Tryd.ntmps16
      go_wp2
      go_region
      all_goals go_wp2
      all_goals go_returns
      all_goals exact ⟨rfl, by go_grown⟩
  · have h0t : (b0 != 69) = true := bne_iff_ne.2 h0
    clear hs h0
    go_enter Tryd.func16, Tryd.ntmps16
    go_wp2
    go_region
    all_goals go_wp2
    all_goals go_returns
    all_goals exact ⟨rfl, by go_grown⟩
def good4 (l : List Int) : Prop := l.getD 0 0 = 69 ∧ l.getD 1 0 = 0 ∧ l.getD 6 0 = 0 ∧ l.getD 7 0 = 0
instance (l : List Int) : Decidable (good4 l) := by unfold good4; infer_instance
set_option maxHeartbeats 1000000 in
set_option maxRecDepth 100000 in
theorem ipRead_sum (E : Nat → Addr) (A : Option Addr) (n c : Nat) (l : List Int) (w : World) (hE : Errs ipErrs E w) (hr : Kd.C (Kd.int .u8) w A 20 l) (hby : Byt l) (hn : 20 ≤ n) (hle : n ≤ c) (hn2 : n ≤ 1000000) (hs : good4 l) (hz : ofL l ≠ 0) :
    Calls Tryd.prog 16 #[.slice A n c] w fun e w' => e = .returned (.tuple #[.agg noHdr.cells, errV E (some 3)]) ∧ Below w.heap.size w w' := by
  have hu := Tryd.underlying25
  have hcut := cut_to (P := Tryd.prog) 26 5 .i64 Tryd.underlying26 Tryd.infoB A n c 20 20 rfl (by omega)
  have hb := below_alloc (Below.refl w.heap.size w) (.cells #[.int .i64 0, .int .i64 0, .int .i64 0, .int .i64 0, .int .u32 0, .int .u32 0] 25)
  have hc := pw_cell_below hb (hE.cell 3 (by simp [ipErrs]))
  obtain ⟨ad, b0, rfl, _, _⟩ := at_nat hr 0 (by omega)
  obtain ⟨s0, s1, s6, s7⟩ := hs
  have c0 := pw_cell_below hb (cell0_of hr (by omega))
  have c1 := pw_cell_below hb (cells_of hr 1 (by omega) (by omega))
  have c6 := pw_cell_below hb (cells_of hr 6 (by omega) (by omega))
  have c7 := pw_cell_below hb (cells_of hr 7 (by omega) (by omega))
  rw [s0] at c0
  rw [s1] at c1
  rw [s6] at c6
  rw [s7] at c7
  have HR := Aside0.mk (And.intro (Kd.C_below hr hb) (And.intro hby hr.1))
  have hzt : decide (ofL l = 0) = false := decide_eq_false hz
  simp only [errV, Hdr.cells]
  clear hE hr hb s0 s1 s6 s7 hz hby
  go_enter Tryd.func16, Tryd.ntmps16
  go_wp2_with fail
  refine (check_any (some ad) 20 c l _ HR.out.1 HR.out.2.1 (by have := HR.out.2.2; omega)).mono ?_
  rintro e w1 ⟨rfl, rfl⟩
  go_wp2
  go_region
  all_goals go_wp2
  all_goals go_returns
  all_goals exact ⟨rfl, by go_grown⟩
set_option maxHeartbeats 1000000 in
set_option maxRecDepth 100000 in
theorem ipRead_range (E : Nat → Addr) (A : Option Addr) (n c : Nat) (l : List Int) (w : World) (hE : Errs ipErrs E w) (hr : Kd.C (Kd.int .u8) w A 20 l) (hby : Byt l) (hn : 20 ≤ n) (hle : n ≤ c) (hn2 : n ≤ 1000000) (hs : good4 l) (hz : ofL l = 0) (hlen : nuAt l 2 < 20) :
    Calls Tryd.prog 16 #[.slice A n c] w fun e w' => e = .returned (.tuple #[.agg noHdr.cells, errV E (some 0)]) ∧ Below w.heap.size w w' := by
  have hu := Tryd.underlying25
  have hcut := cut_to (P := Tryd.prog) 26 5 .i64 Tryd.underlying26 Tryd.infoB A n c 20 20 rfl (by omega)
  have hb := below_alloc (Below.refl w.heap.size w) (.cells #[.int .i64 0, .int .i64 0, .int .i64 0, .int .i64 0, .int .u32 0, .int .u32 0] 25)
  have hc := pw_cell_below hb (hE.cell 0 (by simp [ipErrs]))
  obtain ⟨ad, b0, rfl, _, _⟩ := at_nat hr 0 (by omega)
  obtain ⟨s0, s1, s6, s7⟩ := hs
  have c0 := pw_cell_below hb (cell0_of hr (by omega))
  have c1 := pw_cell_below hb (cells_of hr 1 (by omega) (by omega))
  have c6 := pw_cell_below hb (cells_of hr 6 (by omega) (by omega))
  have c7 := pw_cell_below hb (cells_of hr 7 (by omega) (by omega))
  rw [s0] at c0
  rw [s1] at c1
  rw [s6] at c6
  rw [s7] at c7
  have HR := Aside0.mk (And.intro (Kd.C_below hr hb) (And.intro hby hr.1))
  have hzt : decide (ofL l = 0) = true := decide_eq_true hz
  simp only [errV, Hdr.cells]
  clear hE hr hb s0 s1 s6 s7 hz hby
  go_enter Tryd.func16, Tryd.ntmps16
  go_wp2_with fail
  refine (check_any (some ad) 20 c l _ HR.out.1 HR.out.2.1 (by have := HR.out.2.2; omega)).mono ?_
  rintro e w1 ⟨rfl, rfl⟩
  go_wp2_with fail
  refine (word_any (some ad) 20 c l 2 2 rfl (by omega) _ HR.out.1 HR.out.2.1 (by have := HR.out.2.2; omega)).mono ?_
  rintro e w1 ⟨rfl, m, rfl⟩
  go_wp2
  go_region
  all_goals go_wp2
  all_goals go_returns
  all_goals exact ⟨rfl, pw_below_drewN (below_alloc (Below.refl _ _) _) _⟩
theorem word_z (A : Option Addr) (n c : Nat) (l : List Int) (j : Int) (h0 : 0 ≤ j) (h : j + 2 ≤ n) (w : World) (hr : Kd.C (Kd.int .u8) w A n l) (hb : Byt l) (hl : l.length ≤ 1000000) :
    Calls Tryd.prog 43 #[.slice A n c, .int .i64 j] w fun e w' => e = .returned (.int .i64 (nuAt l j.toNat)) ∧ ∃ m, w' = w.drewN m :=
  word_any A n c l j j.toNat (by omega) (by omega) w hr hb hl
set_option maxHeartbeats 2000000 in
set_option maxRecDepth 100000 in
theorem ipRead_ok (A : Option Addr) (n c : Nat) (l : List Int) (w : World) (hr : Kd.C (Kd.int .u8) w A 20 l) (hby : Byt l) (hn : 20 ≤ n) (hle : n ≤ c) (hn2 : n ≤ 1000000) (hs : good4 l) (hz : ofL l = 0) (hlen : ¬ nuAt l 2 < 20) :
    Calls Tryd.prog 16 #[.slice A n c] w fun e w' => e = .returned (.tuple #[.agg (Hdr.cells ⟨nuAt l 2, nuAt l 4, l.getD 8 0, l.getD 9 0, adAt l 12, adAt l 16⟩), .nilIface]) ∧ Below w.heap.size w w' := by
  have hu := Tryd.underlying25
  have hu4 := Tryd.underlying73
  have hcut := cut_to (P := Tryd.prog) 26 5 .i64 Tryd.underlying26 Tryd.infoB A n c 20 20 rfl (by omega)
  have hb := below_alloc (Below.refl w.heap.size w) (.cells #[.int .i64 0, .int .i64 0, .int .i64 0, .int .i64 0, .int .u32 0, .int .u32 0] 25)
  obtain ⟨ad, b0, rfl, _, _⟩ := at_nat hr 0 (by omega)
  obtain ⟨s0, s1, s6, s7⟩ := hs
  have c0 := pw_cell_below hb (cell0_of hr (by omega))
  have c1 := pw_cell_below hb (cells_of hr 1 (by omega) (by omega))
  have c6 := pw_cell_below hb (cells_of hr 6 (by omega) (by omega))
  have c7 := pw_cell_below hb (cells_of hr 7 (by omega) (by omega))
  rw [s0] at c0
  rw [s1] at c1
  rw [s6] at c6
  rw [s7] at c7
  have HR := Aside0.mk (And.intro (Kd.C_below hr hb) (And.intro hby hr.1))
  have hzt : decide (ofL l = 0) = true := decide_eq_true hz
  have HC := Aside0.mk (And.intro hr hby)
  simp only [Hdr.cells]
  clear hr hb s0 s1 s6 s7 hz hby
  go_enter Tryd.func16, Tryd.ntmps16
  go_wp2_with fail
  refine (check_any (some ad) 20 c l _ HR.out.1 HR.out.2.1 (by have := HR.out.2.2; omega)).mono ?_
  rintro e w1 ⟨rfl, rfl⟩
  go_wp2_with fail
  refine (word_any (some ad) 20 c l 2 2 rfl (by omega) _ HR.out.1 HR.out.2.1 (by have := HR.out.2.2; omega)).mono ?_
  rintro e w1 ⟨rfl, m, rfl⟩
  go_wp2
  clear HR c0 c1 c6 c7
  obtain ⟨hr, hby⟩ := HC.out
  have HL : Aside0 (l.length ≤ 1000000) := ⟨by rw [hr.1]; omega⟩
  have HE : Aside0 (adOf (l.getD 12 0) (l.getD 13 0) (l.getD 14 0) (l.getD 15 0) = adAt l 12 ∧ adOf (l.getD 16 0) (l.getD 17 0) (l.getD 18 0) (l.getD 19 0) = adAt l 16) := ⟨rfl, rfl⟩
  obtain ⟨k8, k8'⟩ := byt_getD hby 8
  obtain ⟨k9, k9'⟩ := byt_getD hby 9
  obtain ⟨k12, k12'⟩ := byt_getD hby 12
  obtain ⟨k13, k13'⟩ := byt_getD hby 13
  obtain ⟨k14, k14'⟩ := byt_getD hby 14
  obtain ⟨k15, k15'⟩ := byt_getD hby 15
  obtain ⟨k16, k16'⟩ := byt_getD hby 16
  obtain ⟨k17, k17'⟩ := byt_getD hby 17
  obtain ⟨k18, k18'⟩ := byt_getD hby 18
  obtain ⟨k19, k19'⟩ := byt_getD hby 19
  have q8 := cells_of hr 8 (by omega) (by omega)
  have q9 := cells_of hr 9 (by omega) (by omega)
  have q12 := cells_of hr 12 (by omega) (by omega)
  have q13 := cells_of hr 13 (by omega) (by omega)
  have q14 := cells_of hr 14 (by omega) (by omega)
  have q15 := cells_of hr 15 (by omega) (by omega)
  have q16 := cells_of hr 16 (by omega) (by omega)
  have q17 := cells_of hr 17 (by omega) (by omega)
  have q18 := cells_of hr 18 (by omega) (by omega)
  have q19 := cells_of hr 19 (by omega) (by omega)
  clear hr hby
  generalize e8 : l.getD 8 0 = b8 at *
  have G8 := Aside0.mk e8
  clear e8
  generalize e9 : l.getD 9 0 = b9 at *
  have G9 := Aside0.mk e9
  clear e9
  generalize e12 : l.getD 12 0 = b12 at *
  have G12 := Aside0.mk e12
  clear e12
  generalize e13 : l.getD 13 0 = b13 at *
  have G13 := Aside0.mk e13
  clear e13
  generalize e14 : l.getD 14 0 = b14 at *
  have G14 := Aside0.mk e14
  clear e14
  generalize e15 : l.getD 15 0 = b15 at *
  have G15 := Aside0.mk e15
  clear e15
  generalize e16 : l.getD 16 0 = b16 at *
  have G16 := Aside0.mk e16
  clear e16
  generalize e17 : l.getD 17 0 = b17 at *
  have G17 := Aside0.mk e17
  clear e17
  generalize e18 : l.getD 18 0 = b18 at *
  have G18 := Aside0.mk e18
  clear e18
  generalize e19 : l.getD 19 0 = b19 at *
  have G19 := Aside0.mk e19
  clear e19
  have hi8 := (i64_byte b8 k8 k8').1
  have hi9 := (i64_byte b9 k9 k9').1
  have m12 := cut_mid (P := Tryd.prog) 26 5 .i64 .i64 Tryd.underlying26 Tryd.infoB ad 20 c 12 16 12 16 rfl rfl (by omega) (by omega) (by omega) (by omega)
  have m16 := cut_mid (P := Tryd.prog) 26 5 .i64 .i64 Tryd.underlying26 Tryd.infoB ad 20 c 16 20 16 20 rfl rfl (by omega) (by omega) (by omega) (by omega)
  have r4 : ∀ (a : Addr) (d : Nat) (W : World), (Instr.arrayAt 73 (.slice (some a) 4 d)).run Tryd.prog W = .ok (.pointer (some a)) W := fun _ _ _ => by kernel_rfl
  have r12 := r4 ⟨ad.block, ad.off + 12, none⟩ (c - 12)
  have r16 := r4 ⟨ad.block, ad.off + 16, none⟩ (c - 16)
  clear r4
  refine wp_region_noPanic ?_
  refine wp_region_held_drew (S := (fun w' => w'.cell? ⟨ad.block, ad.off + 8, none⟩ = some (.int .u8 b8) ∧ w'.cell? ⟨ad.block, ad.off + 9, none⟩ = some (.int .u8 b9) ∧ w'.cell? ⟨ad.block, ad.off + 12, none⟩ = some (.int .u8 b12) ∧ w'.cell? ⟨ad.block, ad.off + 13, none⟩ = some (.int .u8 b13) ∧ w'.cell? ⟨ad.block, ad.off + 14, none⟩ = some (.int .u8 b14) ∧ w'.cell? ⟨ad.block, ad.off + 15, none⟩ = some (.int .u8 b15) ∧ w'.cell? ⟨ad.block, ad.off + 16, none⟩ = some (.int .u8 b16) ∧ w'.cell? ⟨ad.block, ad.off + 17, none⟩ = some (.int .u8 b17) ∧ w'.cell? ⟨ad.block, ad.off + 18, none⟩ = some (.int .u8 b18) ∧ w'.cell? ⟨ad.block, ad.off + 19, none⟩ = some (.int .u8 b19))) (by kernel_rfl) ?_ (fun hHeld => ?_)
  · (refine (fun hK : Below w.heap.size w _ => ⟨pw_cell_below hK q8, pw_cell_below hK q9, pw_cell_below hK q12, pw_cell_below hK q13, pw_cell_below hK q14, pw_cell_below hK q15, pw_cell_below hK q16, pw_cell_below hK q17, pw_cell_below hK q18, pw_cell_below hK q19⟩) ?_; repeat' (first | exact Below.refl _ _ | (refine below_drew ?_) | (refine pw_below_drewN ?_ _) | (refine below_alloc ?_ _) | (refine Below.setCell ?_ ?_ _) | exact Nat.le_refl _))
  refine wpAnyH_take (i := 0) (v := ?_) rfl (by kernel_rfl) (by kernel_rfl) (by kernel_rfl) (fun _ _ _ h => h) (Or.inl ⟨by rfl, ?_⟩) (by assumption) ?_
  rotate_left 1
  · intro w hSw; (try dsimp only at hSw); go_simp; try with_reducible rfl
  try simp only [Act.put, List.getElem_toArray, List.getElem_cons_zero, List.getElem_cons_succ, List.setIfInBounds_toArray, List.set_cons_zero, List.set_cons_succ]
  refine wpAnyH_take (i := 2) (v := ?_) rfl (by kernel_rfl) (by kernel_rfl) (by kernel_rfl) (fun _ _ _ h => h) (Or.inl ⟨by rfl, ?_⟩) (by assumption) ?_
  rotate_left 1
  · intro w hSw; (try dsimp only at hSw); go_simp; try with_reducible rfl
  try simp only [Act.put, List.getElem_toArray, List.getElem_cons_zero, List.getElem_cons_succ, List.setIfInBounds_toArray, List.set_cons_zero, List.set_cons_succ]
  refine wpAnyH_take (i := 4) (v := ?_) rfl (by kernel_rfl) (by kernel_rfl) (by kernel_rfl) (fun _ _ _ h => h) (Or.inl ⟨by rfl, ?_⟩) (by assumption) ?_
  rotate_left 1
  · intro w hSw; (try dsimp only at hSw); go_simp; try with_reducible rfl
  try simp only [Act.put, List.getElem_toArray, List.getElem_cons_zero, List.getElem_cons_succ, List.setIfInBounds_toArray, List.set_cons_zero, List.set_cons_succ]
  refine wpAnyH_take (i := 5) (v := ?_) rfl (by kernel_rfl) (by kernel_rfl) (by kernel_rfl) (fun _ _ _ h => h) (Or.inl ⟨by rfl, ?_⟩) (by assumption) ?_
  rotate_left 1
  · intro w hSw; (try dsimp only at hSw); go_simp; try with_reducible rfl
  try simp only [Act.put, List.getElem_toArray, List.getElem_cons_zero, List.getElem_cons_succ, List.setIfInBounds_toArray, List.set_cons_zero, List.set_cons_succ]
  refine wpAnyH_take (i := 6) (v := ?_) rfl (by kernel_rfl) (by kernel_rfl) (by kernel_rfl) (fun _ _ _ h => h) (Or.inl ⟨by rfl, ?_⟩) (by assumption) ?_
  rotate_left 1
  · intro w hSw; (try dsimp only at hSw); go_simp; try with_reducible rfl
  try simp only [Act.put, List.getElem_toArray, List.getElem_cons_zero, List.getElem_cons_succ, List.setIfInBounds_toArray, List.set_cons_zero, List.set_cons_succ]
  refine wpAnyH_take (i := 7) (v := ?_) rfl (by kernel_rfl) (by kernel_rfl) (by kernel_rfl) (fun _ _ _ h => h) (Or.inl ⟨by rfl, ?_⟩) (by assumption) ?_
  rotate_left 1
  · intro w hSw; (try dsimp only at hSw); go_simp; try with_reducible rfl
  try simp only [Act.put, List.getElem_toArray, List.getElem_cons_zero, List.getElem_cons_succ, List.setIfInBounds_toArray, List.set_cons_zero, List.set_cons_succ]
  refine wpAnyH_take (i := 8) (v := ?_) rfl (by kernel_rfl) (by kernel_rfl) (by kernel_rfl) (fun _ _ _ h => h) (Or.inl ⟨by rfl, ?_⟩) (by assumption) ?_
  rotate_left 1
  · intro w hSw; (try dsimp only at hSw); go_simp; try with_reducible rfl
  try simp only [Act.put, List.getElem_toArray, List.getElem_cons_zero, List.getElem_cons_succ, List.setIfInBounds_toArray, List.set_cons_zero, List.set_cons_succ]
  refine wpAnyH_take (i := 9) (v := ?_) rfl (by kernel_rfl) (by kernel_rfl) (by kernel_rfl) (fun _ _ _ h => h) (Or.inl ⟨by rfl, ?_⟩) (by assumption) ?_
  rotate_left 1
  · intro w hSw; (try dsimp only at hSw); go_simp; try with_reducible rfl
  try simp only [Act.put, List.getElem_toArray, List.getElem_cons_zero, List.getElem_cons_succ, List.setIfInBounds_toArray, List.set_cons_zero, List.set_cons_succ]
  refine wpAnyH_take (i := 10) (v := ?_) rfl (by kernel_rfl) (by kernel_rfl) (by kernel_rfl) (fun _ _ _ h => h) (Or.inl ⟨by rfl, ?_⟩) (by assumption) ?_
  rotate_left 1
  · intro w hSw; (try dsimp only at hSw); go_simp; try with_reducible rfl
  try simp only [Act.put, List.getElem_toArray, List.getElem_cons_zero, List.getElem_cons_succ, List.setIfInBounds_toArray, List.set_cons_zero, List.set_cons_succ]
  refine wpAnyH_take (i := 11) (v := ?_) rfl (by kernel_rfl) (by kernel_rfl) (by kernel_rfl) (fun _ _ _ h => h) (Or.inl ⟨by rfl, ?_⟩) (by assumption) ?_
  rotate_left 1
  · intro w hSw; (try dsimp only at hSw); go_simp; try with_reducible rfl
  try simp only [Act.put, List.getElem_toArray, List.getElem_cons_zero, List.getElem_cons_succ, List.setIfInBounds_toArray, List.set_cons_zero, List.set_cons_succ]
  refine wpAnyH_take (i := 12) (v := ?_) rfl (by kernel_rfl) (by kernel_rfl) (by kernel_rfl) (fun _ _ _ h => h) (Or.inl ⟨by rfl, ?_⟩) (by assumption) ?_
  rotate_left 1
  · intro w hSw; (try dsimp only at hSw); go_simp; try with_reducible rfl
  try simp only [Act.put, List.getElem_toArray, List.getElem_cons_zero, List.getElem_cons_succ, List.setIfInBounds_toArray, List.set_cons_zero, List.set_cons_succ]
  refine wpAnyH_take (i := 13) (v := ?_) rfl (by kernel_rfl) (by kernel_rfl) (by kernel_rfl) (fun _ _ _ h => h) (Or.inl ⟨by rfl, ?_⟩) (by assumption) ?_
  rotate_left 1
  · intro w hSw; (try dsimp only at hSw); go_simp; try with_reducible rfl
  try simp only [Act.put, List.getElem_toArray, List.getElem_cons_zero, List.getElem_cons_succ, List.setIfInBounds_toArray, List.set_cons_zero, List.set_cons_succ]
  refine wpAnyH_take (i := 14) (v := ?_) rfl (by kernel_rfl) (by kernel_rfl) (by kernel_rfl) (fun _ _ _ h => h) (Or.inl ⟨by rfl, ?_⟩) (by assumption) ?_
  rotate_left 1
  · intro w hSw; (try dsimp only at hSw); go_simp; try with_reducible rfl
  try simp only [Act.put, List.getElem_toArray, List.getElem_cons_zero, List.getElem_cons_succ, List.setIfInBounds_toArray, List.set_cons_zero, List.set_cons_succ]
  refine wpAnyH_take (i := 15) (v := ?_) rfl (by kernel_rfl) (by kernel_rfl) (by kernel_rfl) (fun _ _ _ h => h) (Or.inl ⟨by rfl, ?_⟩) (by assumption) ?_
  rotate_left 1
  · intro w hSw; (try dsimp only at hSw); go_simp; try with_reducible rfl
  try simp only [Act.put, List.getElem_toArray, List.getElem_cons_zero, List.getElem_cons_succ, List.setIfInBounds_toArray, List.set_cons_zero, List.set_cons_succ]
  refine wpAnyH_take (i := 17) (v := ?_) rfl (by kernel_rfl) (by kernel_rfl) (by kernel_rfl) (fun _ _ _ h => h) (Or.inl ⟨by rfl, ?_⟩) (by assumption) ?_
  rotate_left 1
  · intro w hSw; (try dsimp only at hSw); go_simp; try with_reducible rfl
  try simp only [Act.put, List.getElem_toArray, List.getElem_cons_zero, List.getElem_cons_succ, List.setIfInBounds_toArray, List.set_cons_zero, List.set_cons_succ]
  refine wpAnyH_take (i := 18) (v := ?_) rfl (by kernel_rfl) (by kernel_rfl) (by kernel_rfl) (fun _ _ _ h => h) (Or.inl ⟨by rfl, ?_⟩) (by assumption) ?_
  rotate_left 1
  · intro w hSw; (try dsimp only at hSw); go_simp; try with_reducible rfl
  try simp only [Act.put, List.getElem_toArray, List.getElem_cons_zero, List.getElem_cons_succ, List.setIfInBounds_toArray, List.set_cons_zero, List.set_cons_succ]
  refine wpAnyH_take (i := 19) (v := ?_) rfl (by kernel_rfl) (by kernel_rfl) (by kernel_rfl) (fun _ _ _ h => h) (Or.inl ⟨by rfl, ?_⟩) (by assumption) ?_
  rotate_left 1
  · intro w hSw; (try dsimp only at hSw); go_simp; try with_reducible rfl
  try simp only [Act.put, List.getElem_toArray, List.getElem_cons_zero, List.getElem_cons_succ, List.setIfInBounds_toArray, List.set_cons_zero, List.set_cons_succ]
  refine wpAnyH_take (i := 20) (v := ?_) rfl (by kernel_rfl) (by kernel_rfl) (by kernel_rfl) (fun _ _ _ h => h) (Or.inl ⟨by rfl, ?_⟩) (by assumption) ?_
  rotate_left 1
  · intro w hSw; (try dsimp only at hSw); go_simp; try with_reducible rfl
  try simp only [Act.put, List.getElem_toArray, List.getElem_cons_zero, List.getElem_cons_succ, List.setIfInBounds_toArray, List.set_cons_zero, List.set_cons_succ]
  refine wpAnyH_ready (rs := [1]) (by kernel_rfl) (by simp) ?_
  refine AllReadyH.cons rfl (fun K hK => ?_) ?_
  · go_simp
    refine (word_any (some ad) 20 c l 2 2 rfl (by decide) _ (Kd.C_below HC.out.1 (by repeat' (first | exact Below.refl _ _ | (refine below_drew ?_) | (refine pw_below_drewN ?_ _) | (refine below_alloc ?_ _)))) HC.out.2 HL.out).mono ?_
    rintro e w1 ⟨rfl, mm, rfl⟩
    go_wp2_with fail
    refine hK.out _ _ ?_ (fun hHeld => ?_)
    · (refine (fun hK : Below w.heap.size w _ => ⟨pw_cell_below hK q8, pw_cell_below hK q9, pw_cell_below hK q12, pw_cell_below hK q13, pw_cell_below hK q14, pw_cell_below hK q15, pw_cell_below hK q16, pw_cell_below hK q17, pw_cell_below hK q18, pw_cell_below hK q19⟩) ?_; repeat' (first | exact Below.refl _ _ | (refine below_drew ?_) | (refine pw_below_drewN ?_ _) | (refine below_alloc ?_ _) | (refine Below.setCell ?_ ?_ _) | exact Nat.le_refl _))
    clear hK K
    try simp only [Act.put, List.getElem_toArray, List.getElem_cons_zero, List.getElem_cons_succ, List.setIfInBounds_toArray, List.set_cons_zero, List.set_cons_succ]
    refine wpAnyH_ready (rs := [3]) (by kernel_rfl) (by simp) ?_
    refine AllReadyH.cons rfl (fun K hK => ?_) ?_
    · go_simp
      refine (word_any (some ad) 20 c l 4 4 rfl (by decide) _ (Kd.C_below HC.out.1 (by repeat' (first | exact Below.refl _ _ | (refine below_drew ?_) | (refine pw_below_drewN ?_ _) | (refine below_alloc ?_ _)))) HC.out.2 HL.out).mono ?_
      rintro e w1 ⟨rfl, mm, rfl⟩
      go_wp2_with fail
      refine hK.out _ _ ?_ (fun hHeld => ?_)
      · (refine (fun hK : Below w.heap.size w _ => ⟨pw_cell_below hK q8, pw_cell_below hK q9, pw_cell_below hK q12, pw_cell_below hK q13, pw_cell_below hK q14, pw_cell_below hK q15, pw_cell_below hK q16, pw_cell_below hK q17, pw_cell_below hK q18, pw_cell_below hK q19⟩) ?_; repeat' (first | exact Below.refl _ _ | (refine below_drew ?_) | (refine pw_below_drewN ?_ _) | (refine below_alloc ?_ _) | (refine Below.setCell ?_ ?_ _) | exact Nat.le_refl _))
      clear hK K
      try simp only [Act.put, List.getElem_toArray, List.getElem_cons_zero, List.getElem_cons_succ, List.setIfInBounds_toArray, List.set_cons_zero, List.set_cons_succ]
      refine wpAnyH_ready (rs := [16]) (by kernel_rfl) (by simp) ?_
      refine AllReadyH.cons rfl (fun K hK => ?_) ?_
      · go_simp
        refine (addrOf_any b12 b13 b14 b15 _ k12 k12' k13 k13' k14 k14' k15 k15').mono ?_
        rintro e w2 ⟨rfl, rfl⟩
        go_wp2_with fail
        refine hK.out _ _ ?_ (fun hHeld => ?_)
        · (refine (fun hK : Below w.heap.size w _ => ⟨pw_cell_below hK q8, pw_cell_below hK q9, pw_cell_below hK q12, pw_cell_below hK q13, pw_cell_below hK q14, pw_cell_below hK q15, pw_cell_below hK q16, pw_cell_below hK q17, pw_cell_below hK q18, pw_cell_below hK q19⟩) ?_; repeat' (first | exact Below.refl _ _ | (refine below_drew ?_) | (refine pw_below_drewN ?_ _) | (refine below_alloc ?_ _) | (refine Below.setCell ?_ ?_ _) | exact Nat.le_refl _))
        clear hK K
        try simp only [Act.put, List.getElem_toArray, List.getElem_cons_zero, List.getElem_cons_succ, List.setIfInBounds_toArray, List.set_cons_zero, List.set_cons_succ]
        refine wpAnyH_ready (rs := [21]) (by kernel_rfl) (by simp) ?_
        refine AllReadyH.cons rfl (fun K hK => ?_) ?_
        · go_simp
          refine (addrOf_any b16 b17 b18 b19 _ k16 k16' k17 k17' k18 k18' k19 k19').mono ?_
          rintro e w2 ⟨rfl, rfl⟩
          go_wp2_with fail
          refine hK.out _ _ ?_ (fun hHeld => ?_)
          · (refine (fun hK : Below w.heap.size w _ => ⟨pw_cell_below hK q8, pw_cell_below hK q9, pw_cell_below hK q12, pw_cell_below hK q13, pw_cell_below hK q14, pw_cell_below hK q15, pw_cell_below hK q16, pw_cell_below hK q17, pw_cell_below hK q18, pw_cell_below hK q19⟩) ?_; repeat' (first | exact Below.refl _ _ | (refine below_drew ?_) | (refine pw_below_drewN ?_ _) | (refine below_alloc ?_ _) | (refine Below.setCell ?_ ?_ _) | exact Nat.le_refl _))
          clear hK K
          try simp only [Act.put, List.getElem_toArray, List.getElem_cons_zero, List.getElem_cons_succ, List.setIfInBounds_toArray, List.set_cons_zero, List.set_cons_succ]
          refine wpAnyH_take (i := 22) (v := ?_) rfl (by kernel_rfl) (by kernel_rfl) (by kernel_rfl) (fun _ _ _ h => h) (Or.inl ⟨by rfl, ?_⟩) (by assumption) ?_
          rotate_left 1
          · intro w hSw; (try dsimp only at hSw); go_simp; try with_reducible rfl
          try simp only [Act.put, List.getElem_toArray, List.getElem_cons_zero, List.getElem_cons_succ, List.setIfInBounds_toArray, List.set_cons_zero, List.set_cons_succ]
          refine wpAnyH_ready (rs := [23]) (by kernel_rfl) (by simp) ?_
          refine AllReadyH.cons rfl (fun K hK => ?_) ?_
          · go_simp
            refine hK.out _ _ ?_ (fun hHeld => ?_)
            · (refine (fun hK : Below w.heap.size w _ => ⟨pw_cell_below hK q8, pw_cell_below hK q9, pw_cell_below hK q12, pw_cell_below hK q13, pw_cell_below hK q14, pw_cell_below hK q15, pw_cell_below hK q16, pw_cell_below hK q17, pw_cell_below hK q18, pw_cell_below hK q19⟩) ?_; repeat' (first | exact Below.refl _ _ | (refine below_drew ?_) | (refine pw_below_drewN ?_ _) | (refine below_alloc ?_ _) | (refine Below.setCell ?_ ?_ _) | exact Nat.le_refl _))
            clear hK K
            try simp only [Act.put, List.getElem_toArray, List.getElem_cons_zero, List.getElem_cons_succ, List.setIfInBounds_toArray, List.set_cons_zero, List.set_cons_succ]
            refine wpAnyH_take (i := 24) (v := ?_) rfl (by kernel_rfl) (by kernel_rfl) (by kernel_rfl) (fun _ _ _ h => h) (Or.inl ⟨by rfl, ?_⟩) (by assumption) ?_
            rotate_left 1
            · intro w hSw; (try dsimp only at hSw); go_simp; try with_reducible rfl
            try simp only [Act.put, List.getElem_toArray, List.getElem_cons_zero, List.getElem_cons_succ, List.setIfInBounds_toArray, List.set_cons_zero, List.set_cons_succ]
            refine wpAnyH_done (by kernel_rfl) ?_ _
            refine NoPanic.normal ?_
            go_wp2
            go_returns
            refine ⟨?_, by repeat' (first | exact Below.refl _ _ | (refine pw_below_drewN ?_ _) | (refine below_alloc ?_ _))⟩
            rw [G8.out, G9.out, ← HE.out.1, ← HE.out.2]
          · exact AllReadyH.nil
        · exact AllReadyH.nil
      · exact AllReadyH.nil
    · exact AllReadyH.nil
  · exact AllReadyH.nil
theorem ipRead_any (E : Nat → Addr) (A : Option Addr) (n c : Nat) (l : List Int) (w : World) (hE : Errs ipErrs E w) (hr : Kd.C (Kd.int .u8) w A n l) (hby : Byt l) (hle : n ≤ c) (hn2 : n ≤ 1000000) :
    Calls Tryd.prog 16 #[.slice A n c] w fun e w' => e = .returned (.tuple #[.agg (readL l).1.cells, errV E (readL l).2]) ∧ Below w.heap.size w w' := by
  have hn := hr.1
  unfold readL
  by_cases h1 : l.length < 20
  · rw [if_pos h1]
    exact ipRead_short E A n c l w hE hr (by omega)
  · rw [if_neg h1]
    have hr20 := C_take' hr (m := 20) (by omega)
    have hb20 := byt_take hby 20
    generalize l.take 20 = m at *
    unfold read20
    by_cases h2 : ¬ (m.getD 0 0 = 69 ∧ m.getD 1 0 = 0 ∧ m.getD 6 0 = 0 ∧ m.getD 7 0 = 0)
    · rw [if_pos h2]
      exact ipRead_shape E A n c m w hE hr20 (by omega) hle hn2 h2
    · rw [if_neg h2]
      have h2' : good4 m := Decidable.not_not.1 h2
      by_cases h3 : ofL m ≠ 0
      · rw [if_pos h3]
        exact ipRead_sum E A n c m w hE hr20 hb20 (by omega) hle hn2 h2' h3
      · rw [if_neg h3]
        have h3' : ofL m = 0 := Decidable.not_not.1 h3
        by_cases h4 : nuAt m 2 < 20
        · rw [if_pos h4]
          exact ipRead_range E A n c m w hE hr20 hb20 (by omega) hle hn2 h2' h3' h4
        · rw [if_neg h4]
          exact ipRead_ok A n c m w hr20 hb20 (by omega) hle hn2 h2' h3' h4
end Go.Proofs.YtbgbplbkombfjaaDoor
