/- rivuletref1.ReadHeader, HopHeader. -/
import Derived.Test.YtbgbplbkombfjaaDoorIpRefB
import Derived.Test.YtbgbplbkombfjaaDoorSee
import Derived.Test.YtbgbplbkombfjaaDoorLawIpFields
namespace Go.Proofs.YtbgbplbkombfjaaDoor
open Go.RowKit Go.Proofs.YtbgbplbkombfjaaDoorW.PrintWords SumPlain
set_option linter.unusedVariables false
set_option linter.unusedSimpArgs false
attribute [local go_sem] setCell_drewN alloc_drewN
set_option maxHeartbeats 1000000 in
set_option maxRecDepth 100000 in
theorem refRead_short (A : Option Addr) (n c : Nat) (w : World) (hs : n < 20) :
    Calls Tryd.prog 17 #[.slice A n c] w fun e w' => e = .returned (.tuple #[.agg noHdr.cells, .int .i64 101]) ∧ Below w.heap.size w w' := by
  have hu := Tryd.underlying34
  simp only [Hdr.cells]
  go_enter Tryd.func17, Tryd.ntmps17
  go_wp2
  all_goals go_returns
  all_goals exact ⟨rfl, by go_grown⟩
set_option maxHeartbeats 1000000 in
set_option maxRecDepth 100000 in
theorem refRead_shape (A : Option Addr) (n c : Nat) (l : List Int) (w : World) (hr : Kd.C (Kd.int .u8) w A 20 l) (hn : 20 ≤ n) (hle : n ≤ c) (hn2 : n ≤ 1000000) (hs : ¬ (l.getD 0 0 = 69 ∧ l.getD 1 0 = 0 ∧ l.getD 6 0 = 0 ∧ l.getD 7 0 = 0)) :
    Calls Tryd.prog 17 #[.slice A n c] w fun e w' => e = .returned (.tuple #[.agg noHdr.cells, .int .i64 102]) ∧ Below w.heap.size w w' := by
  have hu := Tryd.underlying34
  have hcut := cut_to (P := Tryd.prog) 26 5 .i64 Tryd.underlying26 Tryd.infoB A n c 20 20 rfl (by omega)
  have hb := below_alloc (Below.refl w.heap.size w) (.cells #[.int .i64 0, .int .i64 0, .int .i64 0, .int .i64 0, .int .u32 0, .int .u32 0] 34)
  obtain ⟨ad, b0, rfl, _, _⟩ := at_nat hr 0 (by omega)
  have c0 := pw_cell_below hb (cell0_of hr (by omega))
  have c1 := pw_cell_below hb (cells_of hr 1 (by omega) (by omega))
  have c6 := pw_cell_below hb (cells_of hr 6 (by omega) (by omega))
  have c7 := pw_cell_below hb (cells_of hr 7 (by omega) (by omega))
  generalize l.getD 0 0 = b0 at *
  generalize l.getD 1 0 = b1 at *
  generalize l.getD 6 0 = b6 at *
  generalize l.getD 7 0 = b7 at *
  simp only [Hdr.cells]
  clear hr hb
  by_cases h0 : b0 = 69
  · have h0t : (b0 != 69) = false := bne_eq_false_iff_eq.2 h0
    by_cases h1 : b1 = 0
    · have h1t : (b1 != 0) = false := bne_eq_false_iff_eq.2 h1
      by_cases h6 : b6 = 0
      · have h6t : (b6 != 0) = false := bne_eq_false_iff_eq.2 h6
        have h7 : (b7 != 0) = true := bne_iff_ne.2 fun h7 => hs ⟨h0, h1, h6, h7⟩
        clear hs h0 h1 h6
        go_enter Tryd.func17, Tryd.ntmps17
        go_wp2
        all_goals go_returns
        all_goals exact ⟨rfl, by go_grown⟩
      · have h6t : (b6 != 0) = true := bne_iff_ne.2 h6
        clear hs h0 h1 h6
        go_enter Tryd.func17, Tryd.ntmps17
        go_wp2
        all_goals go_returns
        all_goals exact ⟨rfl, by go_grown⟩
    · have h1t : (b1 != 0) = true := bne_iff_ne.2 h1
      clear hs h0 h1
      go_enter Tryd.func17, Tryd.ntmps17
      go_wp2
      all_goals go_returns
      all_goals exact ⟨rfl, by go_grown⟩
  · have h0t : (b0 != 69) = true := bne_iff_ne.2 h0
    clear hs h0
    go_enter Tryd.func17, Tryd.ntmps17
    go_wp2
    all_goals go_returns
    all_goals exact ⟨rfl, by go_grown⟩
set_option maxHeartbeats 1000000 in
set_option maxRecDepth 100000 in
theorem refRead_sum (A : Option Addr) (n c : Nat) (l : List Int) (w : World) (hr : Kd.C (Kd.int .u8) w A 20 l) (hby : Byt l) (hn : 20 ≤ n) (hle : n ≤ c) (hn2 : n ≤ 1000000) (hs : good4 l) (hz : ofL l ≠ 0) :
    Calls Tryd.prog 17 #[.slice A n c] w fun e w' => e = .returned (.tuple #[.agg noHdr.cells, .int .i64 105]) ∧ Below w.heap.size w w' := by
  have hu := Tryd.underlying34
  have hcut := cut_to (P := Tryd.prog) 26 5 .i64 Tryd.underlying26 Tryd.infoB A n c 20 20 rfl (by omega)
  have hb := below_alloc (Below.refl w.heap.size w) (.cells #[.int .i64 0, .int .i64 0, .int .i64 0, .int .i64 0, .int .u32 0, .int .u32 0] 34)
  obtain ⟨ad, b0, rfl, _, _⟩ := at_nat hr 0 (by omega)
  obtain ⟨s0, s1, s6, s7⟩ := hs
  have c0 := pw_cell_below hb (cell0_of hr (by omega))
  have c1 := pw_cell_below hb (cells_of hr 1 (by omega) (by omega))
  have c6 := pw_cell_below hb (cells_of hr 6 (by omega) (by omega))
  have c7 := pw_cell_below hb (cells_of hr 7 (by omega) (by omega))
  rw [s0] at c0
  rw [s1] at c1
  rw [s6] at c6
  rw [s7] at c7
  have HR := Aside0.mk (And.intro (Kd.C_below hr hb) (And.intro hby hr.1))
  have hzt : (ofL l != 0) = true := bne_iff_ne.2 hz
  simp only [Hdr.cells]
  clear hr hb s0 s1 s6 s7 hz hby
  go_enter Tryd.func17, Tryd.ntmps17
  go_wp2_with fail
  refine (refsum_any (some ad) 20 c l _ HR.out.1 HR.out.2.1 (by have := HR.out.2.2; omega)).mono ?_
  rintro e w1 ⟨rfl, rfl⟩
  go_wp2
  all_goals go_returns
  all_goals exact ⟨rfl, by go_grown⟩
set_option maxHeartbeats 8000000 in
set_option maxRecDepth 100000 in
theorem refRead_range (A : Option Addr) (n c : Nat) (l : List Int) (w : World) (hr : Kd.C (Kd.int .u8) w A 20 l) (hby : Byt l) (hn : 20 ≤ n) (hle : n ≤ c) (hn2 : n ≤ 1000000) (hs : good4 l) (hz : ofL l = 0) (hlen : nuAt l 2 < 20) :
    Calls Tryd.prog 17 #[.slice A n c] w fun e w' => e = .returned (.tuple #[.agg noHdr.cells, .int .i64 103]) ∧ Below w.heap.size w w' := by
  have hu := Tryd.underlying34
  have hcut := cut_to (P := Tryd.prog) 26 5 .i64 Tryd.underlying26 Tryd.infoB A n c 20 20 rfl (by omega)
  have hb := below_alloc (Below.refl w.heap.size w) (.cells #[.int .i64 0, .int .i64 0, .int .i64 0, .int .i64 0, .int .u32 0, .int .u32 0] 34)
  obtain ⟨ad, b0, rfl, _, _⟩ := at_nat hr 0 (by omega)
  obtain ⟨s0, s1, s6, s7⟩ := hs
  have c0 := pw_cell_below hb (cell0_of hr (by omega))
  have c1 := pw_cell_below hb (cells_of hr 1 (by omega) (by omega))
  have c6 := pw_cell_below hb (cells_of hr 6 (by omega) (by omega))
  have c7 := pw_cell_below hb (cells_of hr 7 (by omega) (by omega))
  rw [s0] at c0
  rw [s1] at c1
  rw [s6] at c6
  rw [s7] at c7
  have HR := Aside0.mk (And.intro (Kd.C_below hr hb) (And.intro hby hr.1))
  have hzt : (ofL l != 0) = false := bne_eq_false_iff_eq.2 hz
  simp only [Hdr.cells]
  have HC := Aside0.mk (And.intro hr hby)
  clear hr hb s0 s1 s6 s7 hz hby
  go_enter Tryd.func17, Tryd.ntmps17
  go_wp2_with fail
  refine (refsum_any (some ad) 20 c l _ HR.out.1 HR.out.2.1 (by have := HR.out.2.2; omega)).mono ?_
  rintro e w1 ⟨rfl, rfl⟩
  go_wp2
  clear HR c0 c1 c6 c7
  obtain ⟨hr, hby⟩ := HC.out
  have HL : Aside0 (l.length ≤ 1000000) := ⟨by rw [hr.1]; omega⟩
  unfold nuAt at hlen
  simp only [Nat.reduceAdd] at hlen
  obtain ⟨k2, k2'⟩ := byt_getD hby 2
  have q2 := cells_of hr 2 (by omega) (by omega)
  obtain ⟨k3, k3'⟩ := byt_getD hby 3
  have q3 := cells_of hr 3 (by omega) (by omega)
  obtain ⟨k4, k4'⟩ := byt_getD hby 4
  have q4 := cells_of hr 4 (by omega) (by omega)
  obtain ⟨k5, k5'⟩ := byt_getD hby 5
  have q5 := cells_of hr 5 (by omega) (by omega)
  obtain ⟨k8, k8'⟩ := byt_getD hby 8
  have q8 := cells_of hr 8 (by omega) (by omega)
  obtain ⟨k9, k9'⟩ := byt_getD hby 9
  have q9 := cells_of hr 9 (by omega) (by omega)
  clear hr hby
  generalize e2 : l.getD 2 0 = b2 at *
  have G2 := Aside0.mk e2
  clear e2
  generalize e3 : l.getD 3 0 = b3 at *
  have G3 := Aside0.mk e3
  clear e3
  generalize e4 : l.getD 4 0 = b4 at *
  have G4 := Aside0.mk e4
  clear e4
  generalize e5 : l.getD 5 0 = b5 at *
  have G5 := Aside0.mk e5
  clear e5
  generalize e8 : l.getD 8 0 = b8 at *
  have G8 := Aside0.mk e8
  clear e8
  generalize e9 : l.getD 9 0 = b9 at *
  have G9 := Aside0.mk e9
  clear e9
  have E1 := or64_8 b2 b3 k2 k2' k3 k3'
  have E2 := or64_8 b4 b5 k4 k4' k5 k5'
  obtain ⟨i2, m2⟩ := i64_byte b2 k2 k2'
  obtain ⟨i3, m3⟩ := i64_byte b3 k3 k3'
  obtain ⟨i4, m4⟩ := i64_byte b4 k4 k4'
  obtain ⟨i5, m5⟩ := i64_byte b5 k5 k5'
  obtain ⟨i8, m8⟩ := i64_byte b8 k8 k8'
  obtain ⟨i9, m9⟩ := i64_byte b9 k9 k9'
  go_region_held3 (fun w' => w'.cell? ⟨ad.block, ad.off + 2, none⟩ = some (.int .u8 b2) ∧ w'.cell? ⟨ad.block, ad.off + 3, none⟩ = some (.int .u8 b3) ∧ w'.cell? ⟨ad.block, ad.off + 4, none⟩ = some (.int .u8 b4) ∧ w'.cell? ⟨ad.block, ad.off + 5, none⟩ = some (.int .u8 b5) ∧ w'.cell? ⟨ad.block, ad.off + 8, none⟩ = some (.int .u8 b8) ∧ w'.cell? ⟨ad.block, ad.off + 9, none⟩ = some (.int .u8 b9)) ((refine (fun hK : Below w.heap.size w _ => ⟨pw_cell_below hK q2, pw_cell_below hK q3, pw_cell_below hK q4, pw_cell_below hK q5, pw_cell_below hK q8, pw_cell_below hK q9⟩) ?_; repeat' (first | exact Below.refl _ _ | (refine below_drew ?_) | (refine pw_below_drewN ?_ _) | (refine below_alloc ?_ _) | (refine Below.setCell ?_ ?_ _) | exact Nat.le_refl _ | (simp; done) | omega)))
    (first | (go_at_call 25; refine (at_z (some ad) 20 c l _ (by decide) (by decide) _ (Kd.C_below HC.out.1 (by repeat' (first | exact Below.refl _ _ | (refine below_drew ?_) | (refine pw_below_drewN ?_ _) | (refine below_alloc ?_ _)))) HC.out.2 HL.out).mono ?_; rintro e w1 ⟨rfl, mm, rfl⟩))
  all_goals go_wp2
  all_goals go_returns
  all_goals exact ⟨rfl, by repeat' (first | exact Below.refl _ _ | (refine below_drew ?_) | (refine pw_below_drewN ?_ _) | (refine below_alloc ?_ _) | (refine Below.setCell ?_ ?_ _) | exact Nat.le_refl _ | (simp; done) | omega)⟩
set_option maxHeartbeats 8000000 in
set_option maxRecDepth 100000 in
theorem refRead_ok (A : Option Addr) (n c : Nat) (l : List Int) (w : World) (hr : Kd.C (Kd.int .u8) w A 20 l) (hby : Byt l) (hn : 20 ≤ n) (hle : n ≤ c) (hn2 : n ≤ 1000000) (hs : good4 l) (hz : ofL l = 0) (hlen : ¬ nuAt l 2 < 20) :
    Calls Tryd.prog 17 #[.slice A n c] w fun e w' => e = .returned (.tuple #[.agg (Hdr.cells ⟨nuAt l 2, nuAt l 4, l.getD 8 0, l.getD 9 0, adAt l 12, adAt l 16⟩), .int .i64 0]) ∧ Below w.heap.size w w' := by
  have hu := Tryd.underlying34
  have hcut := cut_to (P := Tryd.prog) 26 5 .i64 Tryd.underlying26 Tryd.infoB A n c 20 20 rfl (by omega)
  have hb := below_alloc (Below.refl w.heap.size w) (.cells #[.int .i64 0, .int .i64 0, .int .i64 0, .int .i64 0, .int .u32 0, .int .u32 0] 34)
  obtain ⟨ad, b0, rfl, _, _⟩ := at_nat hr 0 (by omega)
  obtain ⟨s0, s1, s6, s7⟩ := hs
  have c0 := pw_cell_below hb (cell0_of hr (by omega))
  have c1 := pw_cell_below hb (cells_of hr 1 (by omega) (by omega))
  have c6 := pw_cell_below hb (cells_of hr 6 (by omega) (by omega))
  have c7 := pw_cell_below hb (cells_of hr 7 (by omega) (by omega))
  rw [s0] at c0
  rw [s1] at c1
  rw [s6] at c6
  rw [s7] at c7
  have HR := Aside0.mk (And.intro (Kd.C_below hr hb) (And.intro hby hr.1))
  have hzt : (ofL l != 0) = false := bne_eq_false_iff_eq.2 hz
  simp only [Hdr.cells]
  have HC := Aside0.mk (And.intro hr hby)
  clear hr hb s0 s1 s6 s7 hz hby
  go_enter Tryd.func17, Tryd.ntmps17
  go_wp2_with fail
  refine (refsum_any (some ad) 20 c l _ HR.out.1 HR.out.2.1 (by have := HR.out.2.2; omega)).mono ?_
  rintro e w1 ⟨rfl, rfl⟩
  go_wp2
  clear HR c0 c1 c6 c7
  obtain ⟨hr, hby⟩ := HC.out
  have HL : Aside0 (l.length ≤ 1000000) := ⟨by rw [hr.1]; omega⟩
  unfold nuAt at hlen
  simp only [Nat.reduceAdd] at hlen
  obtain ⟨k2, k2'⟩ := byt_getD hby 2
  have q2 := cells_of hr 2 (by omega) (by omega)
  obtain ⟨k3, k3'⟩ := byt_getD hby 3
  have q3 := cells_of hr 3 (by omega) (by omega)
  obtain ⟨k4, k4'⟩ := byt_getD hby 4
  have q4 := cells_of hr 4 (by omega) (by omega)
  obtain ⟨k5, k5'⟩ := byt_getD hby 5
  have q5 := cells_of hr 5 (by omega) (by omega)
  obtain ⟨k8, k8'⟩ := byt_getD hby 8
  have q8 := cells_of hr 8 (by omega) (by omega)
  obtain ⟨k9, k9'⟩ := byt_getD hby 9
  have q9 := cells_of hr 9 (by omega) (by omega)
  clear hr hby
  generalize e2 : l.getD 2 0 = b2 at *
  have G2 := Aside0.mk e2
  clear e2
  generalize e3 : l.getD 3 0 = b3 at *
  have G3 := Aside0.mk e3
  clear e3
  generalize e4 : l.getD 4 0 = b4 at *
  have G4 := Aside0.mk e4
  clear e4
  generalize e5 : l.getD 5 0 = b5 at *
  have G5 := Aside0.mk e5
  clear e5
  generalize e8 : l.getD 8 0 = b8 at *
  have G8 := Aside0.mk e8
  clear e8
  generalize e9 : l.getD 9 0 = b9 at *
  have G9 := Aside0.mk e9
  clear e9
  have E1 := or64_8 b2 b3 k2 k2' k3 k3'
  have E2 := or64_8 b4 b5 k4 k4' k5 k5'
  obtain ⟨i2, m2⟩ := i64_byte b2 k2 k2'
  obtain ⟨i3, m3⟩ := i64_byte b3 k3 k3'
  obtain ⟨i4, m4⟩ := i64_byte b4 k4 k4'
  obtain ⟨i5, m5⟩ := i64_byte b5 k5 k5'
  obtain ⟨i8, m8⟩ := i64_byte b8 k8 k8'
  obtain ⟨i9, m9⟩ := i64_byte b9 k9 k9'
  go_region_held3 (fun w' => w'.cell? ⟨ad.block, ad.off + 2, none⟩ = some (.int .u8 b2) ∧ w'.cell? ⟨ad.block, ad.off + 3, none⟩ = some (.int .u8 b3) ∧ w'.cell? ⟨ad.block, ad.off + 4, none⟩ = some (.int .u8 b4) ∧ w'.cell? ⟨ad.block, ad.off + 5, none⟩ = some (.int .u8 b5) ∧ w'.cell? ⟨ad.block, ad.off + 8, none⟩ = some (.int .u8 b8) ∧ w'.cell? ⟨ad.block, ad.off + 9, none⟩ = some (.int .u8 b9)) ((refine (fun hK : Below w.heap.size w _ => ⟨pw_cell_below hK q2, pw_cell_below hK q3, pw_cell_below hK q4, pw_cell_below hK q5, pw_cell_below hK q8, pw_cell_below hK q9⟩) ?_; repeat' (first | exact Below.refl _ _ | (refine below_drew ?_) | (refine pw_below_drewN ?_ _) | (refine below_alloc ?_ _) | (refine Below.setCell ?_ ?_ _) | exact Nat.le_refl _ | (simp; done) | omega)))
    (first | (go_at_call 25; refine (at_z (some ad) 20 c l _ (by decide) (by decide) _ (Kd.C_below HC.out.1 (by repeat' (first | exact Below.refl _ _ | (refine below_drew ?_) | (refine pw_below_drewN ?_ _) | (refine below_alloc ?_ _)))) HC.out.2 HL.out).mono ?_; rintro e w1 ⟨rfl, mm, rfl⟩))
  all_goals go_wp2
  all_goals go_returns
  all_goals refine ⟨?_, by repeat' (first | exact Below.refl _ _ | (refine below_drew ?_) | (refine pw_below_drewN ?_ _) | (refine below_alloc ?_ _) | (refine Below.setCell ?_ ?_ _) | exact Nat.le_refl _ | (simp; done) | omega)⟩
  all_goals unfold nuAt
  all_goals rw [G8.out, G9.out, G2.out, G3.out, G4.out, G5.out]
end Go.Proofs.YtbgbplbkombfjaaDoor
