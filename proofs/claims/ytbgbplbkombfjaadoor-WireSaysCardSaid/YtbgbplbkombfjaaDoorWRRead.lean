/- The document's ReadMsg: any bytes. -/
import Derived.Test.YtbgbplbkombfjaaDoorWRValid
import Derived.Test.YtbgbplbkombfjaaDoorWReadA
import Derived.Test.YtbgbplbkombfjaaDoorWPos
namespace Go.Proofs.YtbgbplbkombfjaaDoor
open Go.RowKit Go.Proofs.YtbgbplbkombfjaaDoorW.PrintWords SumPlain
set_option linter.unusedVariables false
set_option linter.unusedSimpArgs false
attribute [local go_sem] setCell_drewN alloc_drewN
set_option maxHeartbeats 4000000 in
set_option maxRecDepth 100000 in
theorem rread_short (A : Option Addr) (n c : Nat) (w : World) (hs : n < 4) :
    Calls Tryd.prog 35 #[.slice A n c] w fun e w' => ∃ A1 n1 c1, e = .returned (.tuple #[.agg (zMsg.cells (.slice A1 n1 c1)), .int .i64 101]) ∧ Kd.C (Kd.int .u32) w' A1 n1 zMsg.l ∧ Below w.heap.size w w' := by
  have hu := Tryd.underlying56
  go_enter Tryd.func35, Tryd.ntmps35
  go_wp2
  all_goals go_returns
  all_goals exact ⟨none, 0, 0, rfl, nil_C _, by repeat' (first | exact Below.refl _ _ | exact Nat.le_refl _ | (refine below_drew ?_) | (refine pw_below_drewN ?_ _) | (refine below_alloc ?_ _) | (refine Below.setCell ?_ ?_ _) | (simp; done) | omega)⟩
set_option maxHeartbeats 4000000 in
set_option maxRecDepth 100000 in
theorem rread_sum (A : Option Addr) (n c : Nat) (l : List Int) (w : World) (hr : Kd.C (Kd.int .u8) w A n l) (hby : Byt l) (hl : l.length ≤ 1000000) (h4 : 4 ≤ n) (hz : ofL l ≠ 0) :
    Calls Tryd.prog 35 #[.slice A n c] w fun e w' => ∃ A1 n1 c1, e = .returned (.tuple #[.agg (zMsg.cells (.slice A1 n1 c1)), .int .i64 105]) ∧ Kd.C (Kd.int .u32) w' A1 n1 zMsg.l ∧ Below w.heap.size w w' := by
  have hu := Tryd.underlying56
  have hb := below_alloc (Below.refl w.heap.size w) (.cells #[.int .i64 0, .int .u32 0, .int .u32 0, .int .u32 0, .int .u32 0, .int .i64 0, .int .i64 0, .bool false, .slice none 0 0] 56)
  have HR := Aside0.mk (And.intro (Kd.C_below hr hb) (And.intro hby hl))
  have hmx := Kd.C_max hr
  have hzt : (ofL l != 0) = true := bne_iff_ne.2 hz
  clear hr hb hz hby hl
  go_enter Tryd.func35, Tryd.ntmps35
  go_wp2_with fail
  refine (refsum_any A n c l _ HR.out.1 HR.out.2.1 HR.out.2.2).mono ?_
  rintro e w1 ⟨rfl, rfl⟩
  go_wp2
  all_goals go_returns
  all_goals exact ⟨none, 0, 0, rfl, nil_C _, by repeat' (first | exact Below.refl _ _ | exact Nat.le_refl _ | (refine below_drew ?_) | (refine pw_below_drewN ?_ _) | (refine below_alloc ?_ _) | (refine Below.setCell ?_ ?_ _) | (simp; done) | omega)⟩
set_option maxHeartbeats 4000000 in
set_option maxRecDepth 100000 in
theorem rread_shape (A : Option Addr) (n c : Nat) (l : List Int) (w : World) (hr : Kd.C (Kd.int .u8) w A n l) (hby : Byt l) (hl : l.length ≤ 1000000) (h4 : 4 ≤ n) (hz : ofL l = 0) (h1 : l.getD 1 0 ≠ 0) :
    Calls Tryd.prog 35 #[.slice A n c] w fun e w' => ∃ A1 n1 c1, e = .returned (.tuple #[.agg (zMsg.cells (.slice A1 n1 c1)), .int .i64 102]) ∧ Kd.C (Kd.int .u32) w' A1 n1 zMsg.l ∧ Below w.heap.size w w' := by
  have hu := Tryd.underlying56
  have hb := below_alloc (Below.refl w.heap.size w) (.cells #[.int .i64 0, .int .u32 0, .int .u32 0, .int .u32 0, .int .u32 0, .int .i64 0, .int .i64 0, .bool false, .slice none 0 0] 56)
  have HR := Aside0.mk (And.intro (Kd.C_below hr hb) (And.intro hby hl))
  have hmx := Kd.C_max hr
  obtain ⟨ad, b0, rfl, _, _⟩ := at_nat hr 0 (by omega)
  have c1 := pw_cell_below hb (cells_of hr 1 (by omega) (by omega))
  have hzt : (ofL l != 0) = false := bne_eq_false_iff_eq.2 hz
  have h1t : (l.getD 1 0 != 0) = true := bne_iff_ne.2 h1
  generalize l.getD 1 0 = b1 at *
  clear hr hb hz hby hl h1
  go_enter Tryd.func35, Tryd.ntmps35
  go_wp2_with fail
  refine (refsum_any (some ad) n c l _ HR.out.1 HR.out.2.1 HR.out.2.2).mono ?_
  rintro e w1 ⟨rfl, rfl⟩
  go_wp2
  all_goals go_returns
  all_goals exact ⟨none, 0, 0, rfl, nil_C _, by repeat' (first | exact Below.refl _ _ | exact Nat.le_refl _ | (refine below_drew ?_) | (refine pw_below_drewN ?_ _) | (refine below_alloc ?_ _) | (refine Below.setCell ?_ ?_ _) | (simp; done) | omega)⟩
set_option maxHeartbeats 4000000 in
set_option maxRecDepth 100000 in
theorem rread_kindlo (A : Option Addr) (n c : Nat) (l : List Int) (w : World) (hr : Kd.C (Kd.int .u8) w A n l) (hby : Byt l) (hl : l.length ≤ 1000000) (h4 : 4 ≤ n) (hz : ofL l = 0) (h1 : l.getD 1 0 = 0) (hk : l.getD 0 0 - 32 < 1) :
    Calls Tryd.prog 35 #[.slice A n c] w fun e w' => ∃ A1 n1 c1, e = .returned (.tuple #[.agg (zMsg.cells (.slice A1 n1 c1)), .int .i64 113]) ∧ Kd.C (Kd.int .u32) w' A1 n1 zMsg.l ∧ Below w.heap.size w w' := by
  have hu := Tryd.underlying56
  have hb := below_alloc (Below.refl w.heap.size w) (.cells #[.int .i64 0, .int .u32 0, .int .u32 0, .int .u32 0, .int .u32 0, .int .i64 0, .int .i64 0, .bool false, .slice none 0 0] 56)
  have HR := Aside0.mk (And.intro (Kd.C_below hr hb) (And.intro hby hl))
  have hmx := Kd.C_max hr
  obtain ⟨k0, k0'⟩ := byt_getD hby 0
  obtain ⟨ad, b0, rfl, _, _⟩ := at_nat hr 0 (by omega)
  have c1 := pw_cell_below hb (cells_of hr 1 (by omega) (by omega))
  have c0 := pw_cell_below hb (cell0_of hr (by omega))
  rw [h1] at c1
  have hzt : (ofL l != 0) = false := bne_eq_false_iff_eq.2 hz
  generalize l.getD 0 0 = b0 at *
  have hK : decide (b0 - 32 < 1) = true := decide_eq_true hk
  clear hr hb hz hby hl h1 hk
  go_enter Tryd.func35, Tryd.ntmps35
  go_wp2_with fail
  refine (refsum_any (some ad) n c l _ HR.out.1 HR.out.2.1 HR.out.2.2).mono ?_
  rintro e w1 ⟨rfl, rfl⟩
  go_wp2
  all_goals go_returns
  all_goals exact ⟨none, 0, 0, rfl, nil_C _, by repeat' (first | exact Below.refl _ _ | exact Nat.le_refl _ | (refine below_drew ?_) | (refine pw_below_drewN ?_ _) | (refine below_alloc ?_ _) | (refine Below.setCell ?_ ?_ _) | (simp; done) | omega)⟩
set_option maxHeartbeats 4000000 in
set_option maxRecDepth 100000 in
theorem rread_kindhi (A : Option Addr) (n c : Nat) (l : List Int) (w : World) (hr : Kd.C (Kd.int .u8) w A n l) (hby : Byt l) (hl : l.length ≤ 1000000) (h4 : 4 ≤ n) (hz : ofL l = 0) (h1 : l.getD 1 0 = 0) (hk : 5 < l.getD 0 0 - 32) :
    Calls Tryd.prog 35 #[.slice A n c] w fun e w' => ∃ A1 n1 c1, e = .returned (.tuple #[.agg (zMsg.cells (.slice A1 n1 c1)), .int .i64 113]) ∧ Kd.C (Kd.int .u32) w' A1 n1 zMsg.l ∧ Below w.heap.size w w' := by
  have hu := Tryd.underlying56
  have hb := below_alloc (Below.refl w.heap.size w) (.cells #[.int .i64 0, .int .u32 0, .int .u32 0, .int .u32 0, .int .u32 0, .int .i64 0, .int .i64 0, .bool false, .slice none 0 0] 56)
  have HR := Aside0.mk (And.intro (Kd.C_below hr hb) (And.intro hby hl))
  have hmx := Kd.C_max hr
  obtain ⟨k0, k0'⟩ := byt_getD hby 0
  obtain ⟨ad, b0, rfl, _, _⟩ := at_nat hr 0 (by omega)
  have c1 := pw_cell_below hb (cells_of hr 1 (by omega) (by omega))
  have c0 := pw_cell_below hb (cell0_of hr (by omega))
  rw [h1] at c1
  have hzt : (ofL l != 0) = false := bne_eq_false_iff_eq.2 hz
  generalize l.getD 0 0 = b0 at *
  have hK : decide (b0 - 32 < 1) = false := decide_eq_false (by omega)
  have hK2 : decide (5 < b0 - 32) = true := decide_eq_true hk
  clear hr hb hz hby hl h1 hk
  go_enter Tryd.func35, Tryd.ntmps35
  go_wp2_with fail
  refine (refsum_any (some ad) n c l _ HR.out.1 HR.out.2.1 HR.out.2.2).mono ?_
  rintro e w1 ⟨rfl, rfl⟩
  go_wp2
  all_goals go_returns
  all_goals exact ⟨none, 0, 0, rfl, nil_C _, by repeat' (first | exact Below.refl _ _ | exact Nat.le_refl _ | (refine below_drew ?_) | (refine pw_below_drewN ?_ _) | (refine below_alloc ?_ _) | (refine Below.setCell ?_ ?_ _) | (simp; done) | omega)⟩
theorem rsize_1 (w : World) : Calls Tryd.prog 59 #[.int .i64 1] w fun e w' => e = .returned (.int .i64 10) ∧ w = w' := by
  go_enter Tryd.func59, Tryd.ntmps59
  go_wp2
  go_ret
  exact ⟨rfl, rfl⟩
theorem rsize_2 (w : World) : Calls Tryd.prog 59 #[.int .i64 2] w fun e w' => e = .returned (.int .i64 20) ∧ w = w' := by
  go_enter Tryd.func59, Tryd.ntmps59
  go_wp2
  go_ret
  exact ⟨rfl, rfl⟩
theorem rsize_3 (w : World) : Calls Tryd.prog 59 #[.int .i64 3] w fun e w' => e = .returned (.int .i64 18) ∧ w = w' := by
  go_enter Tryd.func59, Tryd.ntmps59
  go_wp2
  go_ret
  exact ⟨rfl, rfl⟩
theorem rsize_4 (w : World) : Calls Tryd.prog 59 #[.int .i64 4] w fun e w' => e = .returned (.int .i64 14) ∧ w = w' := by
  go_enter Tryd.func59, Tryd.ntmps59
  go_wp2
  go_ret
  exact ⟨rfl, rfl⟩
theorem rsize_5 (w : World) : Calls Tryd.prog 59 #[.int .i64 5] w fun e w' => e = .returned (.int .i64 12) ∧ w = w' := by
  go_enter Tryd.func59, Tryd.ntmps59
  go_wp2
  go_ret
  exact ⟨rfl, rfl⟩
end Go.Proofs.YtbgbplbkombfjaaDoor
namespace Go.Proofs.YtbgbplbkombfjaaDoor
open Go.RowKit Go.Proofs.YtbgbplbkombfjaaDoorW.PrintWords SumPlain
set_option linter.unusedVariables false
set_option linter.unusedSimpArgs false
attribute [local go_sem] setCell_drewN alloc_drewN
set_option maxHeartbeats 4000000 in
set_option maxRecDepth 100000 in
theorem rread_end1 (A : Option Addr) (n c : Nat) (l : List Int) (w : World) (hr : Kd.C (Kd.int .u8) w A n l) (hby : Byt l) (hl : l.length ≤ 1000000) (h4 : 4 ≤ n) (hz : ofL l = 0) (h1 : l.getD 1 0 = 0) (h0 : l.getD 0 0 = 33) (hs : n < 10) :
    Calls Tryd.prog 35 #[.slice A n c] w fun e w' => ∃ A1 n1 c1, e = .returned (.tuple #[.agg (zMsg.cells (.slice A1 n1 c1)), .int .i64 101]) ∧ Kd.C (Kd.int .u32) w' A1 n1 zMsg.l ∧ Below w.heap.size w w' := by
  have hu := Tryd.underlying56
  have hu3 := Tryd.underlying53
  have hb := below_alloc (Below.refl w.heap.size w) (.cells #[.int .i64 0, .int .u32 0, .int .u32 0, .int .u32 0, .int .u32 0, .int .i64 0, .int .i64 0, .bool false, .slice none 0 0] 56)
  have HR := Aside0.mk (And.intro (Kd.C_below hr hb) (And.intro hby hl))
  have hmx := Kd.C_max hr
  obtain ⟨ad, b0, rfl, _, _⟩ := at_nat hr 0 (by omega)
  have c1 := pw_cell_below hb (cells_of hr 1 (by omega) (by omega))
  have c0 := pw_cell_below hb (cell0_of hr (by omega))
  rw [h1] at c1
  rw [h0] at c0
  have hzt : (ofL l != 0) = false := bne_eq_false_iff_eq.2 hz
  clear hr hb hz hby hl h1 h0
  go_enter Tryd.func35, Tryd.ntmps35
  go_wp2_with fail
  refine (refsum_any (some ad) _ c l _ HR.out.1 HR.out.2.1 HR.out.2.2).mono ?_
  rintro e w1 ⟨rfl, rfl⟩
  go_wp2_with fail
  refine (rsize_1 _).mono ?_
  rintro e w1 ⟨rfl, rfl⟩
  go_wp2
  all_goals go_returns
  all_goals exact ⟨none, 0, 0, rfl, nil_C _, by repeat' (first | exact Below.refl _ _ | exact Nat.le_refl _ | (refine below_drew ?_) | (refine pw_below_drewN ?_ _) | (refine below_alloc ?_ _) | (refine Below.setCell ?_ ?_ _) | (simp; done) | omega)⟩
set_option maxHeartbeats 4000000 in
set_option maxRecDepth 100000 in
theorem rread_long1 (A : Option Addr) (n c : Nat) (l : List Int) (w : World) (hr : Kd.C (Kd.int .u8) w A n l) (hby : Byt l) (hl : l.length ≤ 1000000) (h4 : 4 ≤ n) (hz : ofL l = 0) (h1 : l.getD 1 0 = 0) (h0 : l.getD 0 0 = 33) (hs : 10 < n) :
    Calls Tryd.prog 35 #[.slice A n c] w fun e w' => ∃ A1 n1 c1, e = .returned (.tuple #[.agg (zMsg.cells (.slice A1 n1 c1)), .int .i64 102]) ∧ Kd.C (Kd.int .u32) w' A1 n1 zMsg.l ∧ Below w.heap.size w w' := by
  have hu := Tryd.underlying56
  have hu3 := Tryd.underlying53
  have hb := below_alloc (Below.refl w.heap.size w) (.cells #[.int .i64 0, .int .u32 0, .int .u32 0, .int .u32 0, .int .u32 0, .int .i64 0, .int .i64 0, .bool false, .slice none 0 0] 56)
  have HR := Aside0.mk (And.intro (Kd.C_below hr hb) (And.intro hby hl))
  have hmx := Kd.C_max hr
  obtain ⟨ad, b0, rfl, _, _⟩ := at_nat hr 0 (by omega)
  have c1 := pw_cell_below hb (cells_of hr 1 (by omega) (by omega))
  have c0 := pw_cell_below hb (cell0_of hr (by omega))
  rw [h1] at c1
  rw [h0] at c0
  have hzt : (ofL l != 0) = false := bne_eq_false_iff_eq.2 hz
  clear hr hb hz hby hl h1 h0
  have hd : decide ((10 : Int) < (n : Int)) = true := decide_eq_true (by omega)
  go_enter Tryd.func35, Tryd.ntmps35
  go_wp2_with fail
  refine (refsum_any (some ad) _ c l _ HR.out.1 HR.out.2.1 HR.out.2.2).mono ?_
  rintro e w1 ⟨rfl, rfl⟩
  go_wp2_with fail
  refine (rsize_1 _).mono ?_
  rintro e w1 ⟨rfl, rfl⟩
  go_wp2
  all_goals go_returns
  all_goals exact ⟨none, 0, 0, rfl, nil_C _, by repeat' (first | exact Below.refl _ _ | exact Nat.le_refl _ | (refine below_drew ?_) | (refine pw_below_drewN ?_ _) | (refine below_alloc ?_ _) | (refine Below.setCell ?_ ?_ _) | (simp; done) | omega)⟩
set_option maxHeartbeats 4000000 in
set_option maxRecDepth 100000 in
theorem rread_at1 (A : Option Addr) (n c : Nat) (l : List Int) (w : World) (hr : Kd.C (Kd.int .u8) w A n l) (hby : Byt l) (hl : l.length ≤ 1000000) (h4 : 4 ≤ n) (hz : ofL l = 0) (h1 : l.getD 1 0 = 0) (h0 : l.getD 0 0 = 33) (hs : n = 10) :
    Calls Tryd.prog 35 #[.slice A n c] w fun e w' => e = .returned (.tuple #[.agg ((if codeOf (validL (posM 1 l)) = 0 then posM 1 l else zMsg).cells (.slice none 0 0)), .int .i64 (codeOf (validL (posM 1 l)))]) ∧ Below w.heap.size w w' := by
  have hu := Tryd.underlying56
  have hu3 := Tryd.underlying53
  have hb := below_alloc (Below.refl w.heap.size w) (.cells #[.int .i64 0, .int .u32 0, .int .u32 0, .int .u32 0, .int .u32 0, .int .i64 0, .int .i64 0, .bool false, .slice none 0 0] 56)
  have HR := Aside0.mk (And.intro (Kd.C_below hr hb) (And.intro hby hl))
  have hmx := Kd.C_max hr
  obtain ⟨ad, b0, rfl, _, _⟩ := at_nat hr 0 (by omega)
  have c1 := pw_cell_below hb (cells_of hr 1 (by omega) (by omega))
  have c0 := pw_cell_below hb (cell0_of hr (by omega))
  rw [h1] at c1
  rw [h0] at c0
  have hzt : (ofL l != 0) = false := bne_eq_false_iff_eq.2 hz
  have HC := Aside0.mk (And.intro hr (And.intro hby hl))
  obtain ⟨k8, k8'⟩ := byt_getD hby 8
  have q8 := cells_of hr 8 (by omega) (by omega)
  obtain ⟨k9, k9'⟩ := byt_getD hby 9
  have q9 := cells_of hr 9 (by omega) (by omega)
  have hwf := posM_wf 1 l hby
  generalize e8 : l.getD 8 0 = b8 at *
  have G8 := Aside0.mk e8
  clear e8
  generalize e9 : l.getD 9 0 = b9 at *
  have G9 := Aside0.mk e9
  clear e9
  have E1 := or64_8 b8 b9 k8 k8' k9 k9'
  obtain ⟨i8, j8⟩ := i64_byte b8 k8 k8'
  obtain ⟨i9, j9⟩ := i64_byte b9 k9 k9'
  have HM : posM 1 l = ⟨1, (adAt l 4), 0, 0, 0, (b8 * 256 + b9), 0, false, []⟩ := by rw [← G8.out, ← G9.out]; simp [posM, nuAt]
  rw [HM] at hwf ⊢
  obtain ⟨z, hzz⟩ : ∃ z, z = codeOf (validL ⟨1, (adAt l 4), 0, 0, 0, (b8 * 256 + b9), 0, false, []⟩) := ⟨_, rfl⟩
  rw [← hzz]
  have HZ := Aside0.mk (And.intro hwf hzz)
  subst hs
  clear hr hb hz hby hl h1 h0 hwf hzz HM
  go_enter Tryd.func35, Tryd.ntmps35
  go_wp2_with fail
  refine (refsum_any (some ad) _ c l _ HR.out.1 HR.out.2.1 HR.out.2.2).mono ?_
  rintro e w1 ⟨rfl, rfl⟩
  go_wp2_with fail
  refine (rsize_1 _).mono ?_
  rintro e w1 ⟨rfl, rfl⟩
  go_wp2_with fail
  clear c0 c1 HR
  refine (at_any (some ad) _ c l 4 4 rfl (by omega) _ (Kd.C_below HC.out.1 (by repeat' (first | exact Below.refl _ _ | (refine below_drew ?_) | (refine pw_below_drewN ?_ _) | (refine below_alloc ?_ _)))) HC.out.2.1 HC.out.2.2).mono ?_
  rintro e wq ⟨rfl, ⟨m4, rfl⟩⟩
  go_wp2_with fail
  refine wp_region_held_drew (S := (fun w' => w'.cell? ⟨ad.block, ad.off + 8, none⟩ = some (.int .u8 b8) ∧ w'.cell? ⟨ad.block, ad.off + 9, none⟩ = some (.int .u8 b9))) (by kernel_rfl) ?_ (fun hHeld => ?_)
  · (refine (fun hK : Below w.heap.size w _ => ⟨pw_cell_below hK q8, pw_cell_below hK q9⟩) ?_; repeat' (first | exact Below.refl _ _ | exact Nat.le_refl _ | (refine below_drew ?_) | (refine pw_below_drewN ?_ _) | (refine below_alloc ?_ _) | (refine Below.setCell ?_ ?_ _) | (simp; done) | omega))
  refine wpAnyH_take (i := 0) (v := ?_) rfl (by kernel_rfl) (by kernel_rfl) (by kernel_rfl) (fun _ _ _ h => h) (Or.inl ⟨by rfl, ?_⟩) (by assumption) ?_
  rotate_left 1
  · intro w hSw; (try dsimp only at hSw); go_simp; try with_reducible rfl
  try simp only [Act.put, List.getElem_toArray, List.getElem_cons_zero, List.getElem_cons_succ, List.setIfInBounds_toArray, List.set_cons_zero, List.set_cons_succ]
  refine wpAnyH_take (i := 1) (v := ?_) rfl (by kernel_rfl) (by kernel_rfl) (by kernel_rfl) (fun _ _ _ h => h) (Or.inl ⟨by rfl, ?_⟩) (by assumption) ?_
  rotate_left 1
  · intro w hSw; (try dsimp only at hSw); go_simp; try with_reducible rfl
  try simp only [Act.put, List.getElem_toArray, List.getElem_cons_zero, List.getElem_cons_succ, List.setIfInBounds_toArray, List.set_cons_zero, List.set_cons_succ]
  refine wpAnyH_take (i := 2) (v := ?_) rfl (by kernel_rfl) (by kernel_rfl) (by kernel_rfl) (fun _ _ _ h => h) (Or.inl ⟨by rfl, ?_⟩) (by assumption) ?_
  rotate_left 1
  · intro w hSw; (try dsimp only at hSw); go_simp; try with_reducible rfl
  try simp only [Act.put, List.getElem_toArray, List.getElem_cons_zero, List.getElem_cons_succ, List.setIfInBounds_toArray, List.set_cons_zero, List.set_cons_succ]
  refine wpAnyH_take (i := 3) (v := ?_) rfl (by kernel_rfl) (by kernel_rfl) (by kernel_rfl) (fun _ _ _ h => h) (Or.inl ⟨by rfl, ?_⟩) (by assumption) ?_
  rotate_left 1
  · intro w hSw; (try dsimp only at hSw); go_simp; try with_reducible rfl
  try simp only [Act.put, List.getElem_toArray, List.getElem_cons_zero, List.getElem_cons_succ, List.setIfInBounds_toArray, List.set_cons_zero, List.set_cons_succ]
  refine wpAnyH_take (i := 4) (v := ?_) rfl (by kernel_rfl) (by kernel_rfl) (by kernel_rfl) (fun _ _ _ h => h) (Or.inl ⟨by rfl, ?_⟩) (by assumption) ?_
  rotate_left 1
  · intro w hSw; (try dsimp only at hSw); go_simp; try with_reducible rfl
  try simp only [Act.put, List.getElem_toArray, List.getElem_cons_zero, List.getElem_cons_succ, List.setIfInBounds_toArray, List.set_cons_zero, List.set_cons_succ]
  refine wpAnyH_take (i := 5) (v := ?_) rfl (by kernel_rfl) (by kernel_rfl) (by kernel_rfl) (fun _ _ _ h => h) (Or.inl ⟨by rfl, ?_⟩) (by assumption) ?_
  rotate_left 1
  · intro w hSw; (try dsimp only at hSw); go_simp; try with_reducible rfl
  try simp only [Act.put, List.getElem_toArray, List.getElem_cons_zero, List.getElem_cons_succ, List.setIfInBounds_toArray, List.set_cons_zero, List.set_cons_succ]
  refine wpAnyH_take (i := 6) (v := ?_) rfl (by kernel_rfl) (by kernel_rfl) (by kernel_rfl) (fun _ _ _ h => h) (Or.inl ⟨by rfl, ?_⟩) (by assumption) ?_
  rotate_left 1
  · intro w hSw; (try dsimp only at hSw); go_simp; try with_reducible rfl
  try simp only [Act.put, List.getElem_toArray, List.getElem_cons_zero, List.getElem_cons_succ, List.setIfInBounds_toArray, List.set_cons_zero, List.set_cons_succ]
  refine wpAnyH_take (i := 7) (v := ?_) rfl (by kernel_rfl) (by kernel_rfl) (by kernel_rfl) (fun _ _ _ h => h) (Or.inl ⟨by rfl, ?_⟩) (by assumption) ?_
  rotate_left 1
  · intro w hSw; (try dsimp only at hSw); go_simp; try with_reducible rfl
  try simp only [Act.put, List.getElem_toArray, List.getElem_cons_zero, List.getElem_cons_succ, List.setIfInBounds_toArray, List.set_cons_zero, List.set_cons_succ]
  refine wpAnyH_take (i := 8) (v := ?_) rfl (by kernel_rfl) (by kernel_rfl) (by kernel_rfl) (fun _ _ _ h => h) (Or.inl ⟨by rfl, ?_⟩) (by assumption) ?_
  rotate_left 1
  · intro w hSw; (try dsimp only at hSw); go_simp; try with_reducible rfl
  try simp only [Act.put, List.getElem_toArray, List.getElem_cons_zero, List.getElem_cons_succ, List.setIfInBounds_toArray, List.set_cons_zero, List.set_cons_succ]
  refine wpAnyH_take (i := 9) (v := ?_) rfl (by kernel_rfl) (by kernel_rfl) (by kernel_rfl) (fun _ _ _ h => h) (Or.inl ⟨by rfl, ?_⟩) (by assumption) ?_
  rotate_left 1
  · intro w hSw; (try dsimp only at hSw); go_simp; try with_reducible rfl
  try simp only [Act.put, List.getElem_toArray, List.getElem_cons_zero, List.getElem_cons_succ, List.setIfInBounds_toArray, List.set_cons_zero, List.set_cons_succ]
  refine wpAnyH_take (i := 10) (v := ?_) rfl (by kernel_rfl) (by kernel_rfl) (by kernel_rfl) (fun _ _ _ h => h) (Or.inl ⟨by rfl, ?_⟩) (by assumption) ?_
  rotate_left 1
  · intro w hSw; (try dsimp only at hSw); go_simp; try with_reducible rfl
  try simp only [Act.put, List.getElem_toArray, List.getElem_cons_zero, List.getElem_cons_succ, List.setIfInBounds_toArray, List.set_cons_zero, List.set_cons_succ]
  refine wpAnyH_ready (rs := [11]) (by kernel_rfl) (by simp) ?_
  refine AllReadyH.cons rfl (fun K hK => ?_) ?_
  · go_simp
    refine hK.out _ _ ?_ (fun hHeld => ?_)
    · (refine (fun hK : Below w.heap.size w _ => ⟨pw_cell_below hK q8, pw_cell_below hK q9⟩) ?_; repeat' (first | exact Below.refl _ _ | exact Nat.le_refl _ | (refine below_drew ?_) | (refine pw_below_drewN ?_ _) | (refine below_alloc ?_ _) | (refine Below.setCell ?_ ?_ _) | (simp; done) | omega))
    clear hK K
    try simp only [Act.put, List.getElem_toArray, List.getElem_cons_zero, List.getElem_cons_succ, List.setIfInBounds_toArray, List.set_cons_zero, List.set_cons_succ]
    refine wpAnyH_done (by kernel_rfl) ?_ _
    go_wp2_with fail
    refine (rvalid_any ⟨1, (adAt l 4), 0, 0, 0, (b8 * 256 + b9), 0, false, []⟩ none 0 0 _ HZ.out.1 (nil_C _)).mono ?_
    rintro e w3 ⟨rfl, hb3⟩
    rw [← HZ.out.2]
    obtain ⟨W2, hW2⟩ : ∃ W2, W2 = (w.alloc (.cells #[.int .i64 0, .int .u32 0, .int .u32 0, .int .u32 0, .int .u32 0, .int .i64 0, .int .i64 0, .bool false, .slice none 0 0] 56)).alloc (.cells #[.int .i64 1, .int .u32 (adAt l 4), .int .u32 0, .int .u32 0, .int .u32 0, .int .i64 (b8 * 256 + b9), .int .i64 0, .bool false, .slice none 0 0] 56) := ⟨_, rfl⟩
    have hz2 : W2.heap[w.heap.size]? = some (.cells #[.int .i64 0, .int .u32 0, .int .u32 0, .int .u32 0, .int .u32 0, .int .i64 0, .int .i64 0, .bool false, .slice none 0 0] 56 (0, 0)) := by rw [hW2]; exact blk_alloc (heap_alloc_new w _) _
    have hg2 : W2.heap[w.heap.size + 1]? = some (.cells #[.int .i64 1, .int .u32 (adAt l 4), .int .u32 0, .int .u32 0, .int .u32 0, .int .i64 (b8 * 256 + b9), .int .i64 0, .bool false, .slice none 0 0] 56 (0, 0)) := by rw [hW2]; exact new_at _ _ _ (by simp)
    have hbW : Below w.heap.size w W2 := by rw [hW2]; exact below_alloc (below_alloc (Below.refl _ _) _) _
    rw [← hW2] at hb3
    have hb3' : Below W2.heap.size W2 w3 := by
      refine below_then ?_ ?_ hb3
      · repeat' (first | exact Below.refl _ _ | (refine below_drew ?_) | (refine pw_below_drewN ?_ _))
      · exact Nat.le_refl _
    have hz3 := blk_below hz2 hb3'
    have hg3 := blk_below hg2 hb3'
    have hB3 := reach_to hbW hbW.size hb3'
    obtain ⟨r, hrr⟩ : ∃ r, r = w.heap.size := ⟨_, rfl⟩
    obtain ⟨g, hgg⟩ : ∃ g, g = w.heap.size + 1 := ⟨_, rfl⟩
    rw [← hrr] at hz3
    rw [← hgg] at hg3 ⊢
    rw [← hrr]
    have hlt := blk_lt hz3
    have hltg := blk_lt hg3
    have z0 := (blk_cell hz3 0).trans rfl
    have g0 := (blk_cell hg3 0).trans rfl
    have z1 := (blk_cell hz3 1).trans rfl
    have g1 := (blk_cell hg3 1).trans rfl
    have z2 := (blk_cell hz3 2).trans rfl
    have g2 := (blk_cell hg3 2).trans rfl
    have z3 := (blk_cell hz3 3).trans rfl
    have g3 := (blk_cell hg3 3).trans rfl
    have z4 := (blk_cell hz3 4).trans rfl
    have g4 := (blk_cell hg3 4).trans rfl
    have z5 := (blk_cell hz3 5).trans rfl
    have g5 := (blk_cell hg3 5).trans rfl
    have z6 := (blk_cell hz3 6).trans rfl
    have g6 := (blk_cell hg3 6).trans rfl
    have z7 := (blk_cell hz3 7).trans rfl
    have g7 := (blk_cell hg3 7).trans rfl
    have z8 := (blk_cell hz3 8).trans rfl
    have g8 := (blk_cell hg3 8).trans rfl
    have fz := blk_frozen hz3
    have HF := Aside0.mk (And.intro hz3 (And.intro hB3 hrr))
    clear hb3 hW2 hz2 hg2 hbW hb3' hz3 hg3 hB3 hrr hgg
    by_cases hz0 : z = 0
    · subst hz0
      go_wp2_with fail
      refine bodyPost_ret (results_cell_row2 rfl _ _ r 56 #[.int .i64 1, .int .u32 (adAt l 4), .int .u32 0, .int .u32 0, .int .u32 0, .int .i64 (b8 * 256 + b9), .int .i64 0, .bool false, .slice none 0 0] (0, 0) _ rfl (blk_put9 HF.out.1) hu rfl (by kernel_rfl)) rfl ?_
      refine ⟨by first | rfl | (rw [if_pos rfl]; rfl), ?_⟩
      iterate 9 (refine Below.setCell ?_ (Nat.le_of_eq HF.out.2.2.symm) _)
      exact HF.out.2.1
    · have HZ0 := Aside0.mk hz0
      have hzb : (z != 0) = true := bne_iff_ne.2 hz0
      have hzd : decide (z = 0) = false := decide_eq_false hz0
      have hze : (z == 0) = false := beq_eq_false_iff_ne.2 hz0
      go_wp2_with fail
      refine bodyPost_ret (results_cell_row2 rfl _ _ r 56 #[.int .i64 0, .int .u32 0, .int .u32 0, .int .u32 0, .int .u32 0, .int .i64 0, .int .i64 0, .bool false, .slice none 0 0] (0, 0) _ rfl (blk_put9 HF.out.1) hu rfl (by kernel_rfl)) rfl ?_
      refine ⟨by first | rfl | (rw [if_neg HZ0.out]; rfl), ?_⟩
      iterate 9 (refine Below.setCell ?_ (Nat.le_of_eq HF.out.2.2.symm) _)
      exact HF.out.2.1
  · exact AllReadyH.nil
end Go.Proofs.YtbgbplbkombfjaaDoor
namespace Go.Proofs.YtbgbplbkombfjaaDoor
open Go.RowKit Go.Proofs.YtbgbplbkombfjaaDoorW.PrintWords SumPlain
set_option linter.unusedVariables false
set_option linter.unusedSimpArgs false
attribute [local go_sem] setCell_drewN alloc_drewN
set_option maxHeartbeats 4000000 in
set_option maxRecDepth 100000 in
theorem rread_end2 (A : Option Addr) (n c : Nat) (l : List Int) (w : World) (hr : Kd.C (Kd.int .u8) w A n l) (hby : Byt l) (hl : l.length ≤ 1000000) (h4 : 4 ≤ n) (hz : ofL l = 0) (h1 : l.getD 1 0 = 0) (h0 : l.getD 0 0 = 34) (hs : n < 20) :
    Calls Tryd.prog 35 #[.slice A n c] w fun e w' => ∃ A1 n1 c1, e = .returned (.tuple #[.agg (zMsg.cells (.slice A1 n1 c1)), .int .i64 101]) ∧ Kd.C (Kd.int .u32) w' A1 n1 zMsg.l ∧ Below w.heap.size w w' := by
  have hu := Tryd.underlying56
  have hu3 := Tryd.underlying53
  have hb := below_alloc (Below.refl w.heap.size w) (.cells #[.int .i64 0, .int .u32 0, .int .u32 0, .int .u32 0, .int .u32 0, .int .i64 0, .int .i64 0, .bool false, .slice none 0 0] 56)
  have HR := Aside0.mk (And.intro (Kd.C_below hr hb) (And.intro hby hl))
  have hmx := Kd.C_max hr
  obtain ⟨ad, b0, rfl, _, _⟩ := at_nat hr 0 (by omega)
  have c1 := pw_cell_below hb (cells_of hr 1 (by omega) (by omega))
  have c0 := pw_cell_below hb (cell0_of hr (by omega))
  rw [h1] at c1
  rw [h0] at c0
  have hzt : (ofL l != 0) = false := bne_eq_false_iff_eq.2 hz
  clear hr hb hz hby hl h1 h0
  go_enter Tryd.func35, Tryd.ntmps35
  go_wp2_with fail
  refine (refsum_any (some ad) _ c l _ HR.out.1 HR.out.2.1 HR.out.2.2).mono ?_
  rintro e w1 ⟨rfl, rfl⟩
  go_wp2_with fail
  refine (rsize_2 _).mono ?_
  rintro e w1 ⟨rfl, rfl⟩
  go_wp2
  all_goals go_returns
  all_goals exact ⟨none, 0, 0, rfl, nil_C _, by repeat' (first | exact Below.refl _ _ | exact Nat.le_refl _ | (refine below_drew ?_) | (refine pw_below_drewN ?_ _) | (refine below_alloc ?_ _) | (refine Below.setCell ?_ ?_ _) | (simp; done) | omega)⟩
set_option maxHeartbeats 4000000 in
set_option maxRecDepth 100000 in
theorem rread_long2 (A : Option Addr) (n c : Nat) (l : List Int) (w : World) (hr : Kd.C (Kd.int .u8) w A n l) (hby : Byt l) (hl : l.length ≤ 1000000) (h4 : 4 ≤ n) (hz : ofL l = 0) (h1 : l.getD 1 0 = 0) (h0 : l.getD 0 0 = 34) (hs : 20 < n) :
    Calls Tryd.prog 35 #[.slice A n c] w fun e w' => ∃ A1 n1 c1, e = .returned (.tuple #[.agg (zMsg.cells (.slice A1 n1 c1)), .int .i64 102]) ∧ Kd.C (Kd.int .u32) w' A1 n1 zMsg.l ∧ Below w.heap.size w w' := by
  have hu := Tryd.underlying56
  have hu3 := Tryd.underlying53
  have hb := below_alloc (Below.refl w.heap.size w) (.cells #[.int .i64 0, .int .u32 0, .int .u32 0, .int .u32 0, .int .u32 0, .int .i64 0, .int .i64 0, .bool false, .slice none 0 0] 56)
  have HR := Aside0.mk (And.intro (Kd.C_below hr hb) (And.intro hby hl))
  have hmx := Kd.C_max hr
  obtain ⟨ad, b0, rfl, _, _⟩ := at_nat hr 0 (by omega)
  have c1 := pw_cell_below hb (cells_of hr 1 (by omega) (by omega))
  have c0 := pw_cell_below hb (cell0_of hr (by omega))
  rw [h1] at c1
  rw [h0] at c0
  have hzt : (ofL l != 0) = false := bne_eq_false_iff_eq.2 hz
  clear hr hb hz hby hl h1 h0
  have hd : decide ((20 : Int) < (n : Int)) = true := decide_eq_true (by omega)
  go_enter Tryd.func35, Tryd.ntmps35
  go_wp2_with fail
  refine (refsum_any (some ad) _ c l _ HR.out.1 HR.out.2.1 HR.out.2.2).mono ?_
  rintro e w1 ⟨rfl, rfl⟩
  go_wp2_with fail
  refine (rsize_2 _).mono ?_
  rintro e w1 ⟨rfl, rfl⟩
  go_wp2
  all_goals go_returns
  all_goals exact ⟨none, 0, 0, rfl, nil_C _, by repeat' (first | exact Below.refl _ _ | exact Nat.le_refl _ | (refine below_drew ?_) | (refine pw_below_drewN ?_ _) | (refine below_alloc ?_ _) | (refine Below.setCell ?_ ?_ _) | (simp; done) | omega)⟩
set_option maxHeartbeats 4000000 in
set_option maxRecDepth 100000 in
theorem rread_at2 (A : Option Addr) (n c : Nat) (l : List Int) (w : World) (hr : Kd.C (Kd.int .u8) w A n l) (hby : Byt l) (hl : l.length ≤ 1000000) (h4 : 4 ≤ n) (hz : ofL l = 0) (h1 : l.getD 1 0 = 0) (h0 : l.getD 0 0 = 34) (hs : n = 20) :
    Calls Tryd.prog 35 #[.slice A n c] w fun e w' => e = .returned (.tuple #[.agg ((if codeOf (validL (posM 2 l)) = 0 then posM 2 l else zMsg).cells (.slice none 0 0)), .int .i64 (codeOf (validL (posM 2 l)))]) ∧ Below w.heap.size w w' := by
  have hu := Tryd.underlying56
  have hu3 := Tryd.underlying53
  have hb := below_alloc (Below.refl w.heap.size w) (.cells #[.int .i64 0, .int .u32 0, .int .u32 0, .int .u32 0, .int .u32 0, .int .i64 0, .int .i64 0, .bool false, .slice none 0 0] 56)
  have HR := Aside0.mk (And.intro (Kd.C_below hr hb) (And.intro hby hl))
  have hmx := Kd.C_max hr
  obtain ⟨ad, b0, rfl, _, _⟩ := at_nat hr 0 (by omega)
  have c1 := pw_cell_below hb (cells_of hr 1 (by omega) (by omega))
  have c0 := pw_cell_below hb (cell0_of hr (by omega))
  rw [h1] at c1
  rw [h0] at c0
  have hzt : (ofL l != 0) = false := bne_eq_false_iff_eq.2 hz
  have HC := Aside0.mk (And.intro hr (And.intro hby hl))
  have hwf := posM_wf 2 l hby
  have HM : posM 2 l = ⟨2, (adAt l 4), (adAt l 8), (adAt l 12), (adAt l 16), 0, 0, false, []⟩ := by simp [posM]
  rw [HM] at hwf ⊢
  obtain ⟨z, hzz⟩ : ∃ z, z = codeOf (validL ⟨2, (adAt l 4), (adAt l 8), (adAt l 12), (adAt l 16), 0, 0, false, []⟩) := ⟨_, rfl⟩
  rw [← hzz]
  have HZ := Aside0.mk (And.intro hwf hzz)
  subst hs
  clear hr hb hz hby hl h1 h0 hwf hzz HM
  go_enter Tryd.func35, Tryd.ntmps35
  go_wp2_with fail
  refine (refsum_any (some ad) _ c l _ HR.out.1 HR.out.2.1 HR.out.2.2).mono ?_
  rintro e w1 ⟨rfl, rfl⟩
  go_wp2_with fail
  refine (rsize_2 _).mono ?_
  rintro e w1 ⟨rfl, rfl⟩
  go_wp2_with fail
  clear c0 c1 HR
  refine (at_any (some ad) _ c l 4 4 rfl (by omega) _ (Kd.C_below HC.out.1 (by repeat' (first | exact Below.refl _ _ | (refine below_drew ?_) | (refine pw_below_drewN ?_ _) | (refine below_alloc ?_ _)))) HC.out.2.1 HC.out.2.2).mono ?_
  rintro e wq ⟨rfl, ⟨m4, rfl⟩⟩
  go_wp2_with fail
  refine (at_any (some ad) _ c l 8 8 rfl (by omega) _ (Kd.C_below HC.out.1 (by repeat' (first | exact Below.refl _ _ | (refine below_drew ?_) | (refine pw_below_drewN ?_ _) | (refine below_alloc ?_ _)))) HC.out.2.1 HC.out.2.2).mono ?_
  rintro e wq ⟨rfl, ⟨m8, rfl⟩⟩
  go_wp2_with fail
  refine (at_any (some ad) _ c l 12 12 rfl (by omega) _ (Kd.C_below HC.out.1 (by repeat' (first | exact Below.refl _ _ | (refine below_drew ?_) | (refine pw_below_drewN ?_ _) | (refine below_alloc ?_ _)))) HC.out.2.1 HC.out.2.2).mono ?_
  rintro e wq ⟨rfl, ⟨m12, rfl⟩⟩
  go_wp2_with fail
  refine (at_any (some ad) _ c l 16 16 rfl (by omega) _ (Kd.C_below HC.out.1 (by repeat' (first | exact Below.refl _ _ | (refine below_drew ?_) | (refine pw_below_drewN ?_ _) | (refine below_alloc ?_ _)))) HC.out.2.1 HC.out.2.2).mono ?_
  rintro e wq ⟨rfl, ⟨m16, rfl⟩⟩
  go_wp2_with fail
  refine (rvalid_any ⟨2, (adAt l 4), (adAt l 8), (adAt l 12), (adAt l 16), 0, 0, false, []⟩ none 0 0 _ HZ.out.1 (nil_C _)).mono ?_
  rintro e w3 ⟨rfl, hb3⟩
  rw [← HZ.out.2]
  obtain ⟨W2, hW2⟩ : ∃ W2, W2 = (w.alloc (.cells #[.int .i64 0, .int .u32 0, .int .u32 0, .int .u32 0, .int .u32 0, .int .i64 0, .int .i64 0, .bool false, .slice none 0 0] 56)).alloc (.cells #[.int .i64 2, .int .u32 (adAt l 4), .int .u32 (adAt l 8), .int .u32 (adAt l 12), .int .u32 (adAt l 16), .int .i64 0, .int .i64 0, .bool false, .slice none 0 0] 56) := ⟨_, rfl⟩
  have hz2 : W2.heap[w.heap.size]? = some (.cells #[.int .i64 0, .int .u32 0, .int .u32 0, .int .u32 0, .int .u32 0, .int .i64 0, .int .i64 0, .bool false, .slice none 0 0] 56 (0, 0)) := by rw [hW2]; exact blk_alloc (heap_alloc_new w _) _
  have hg2 : W2.heap[w.heap.size + 1]? = some (.cells #[.int .i64 2, .int .u32 (adAt l 4), .int .u32 (adAt l 8), .int .u32 (adAt l 12), .int .u32 (adAt l 16), .int .i64 0, .int .i64 0, .bool false, .slice none 0 0] 56 (0, 0)) := by rw [hW2]; exact new_at _ _ _ (by simp)
  have hbW : Below w.heap.size w W2 := by rw [hW2]; exact below_alloc (below_alloc (Below.refl _ _) _) _
  rw [← hW2] at hb3
  have hb3' : Below W2.heap.size W2 w3 := by
    refine below_then ?_ ?_ hb3
    · repeat' (first | exact Below.refl _ _ | (refine below_drew ?_) | (refine pw_below_drewN ?_ _))
    · exact Nat.le_refl _
  have hz3 := blk_below hz2 hb3'
  have hg3 := blk_below hg2 hb3'
  have hB3 := reach_to hbW hbW.size hb3'
  obtain ⟨r, hrr⟩ : ∃ r, r = w.heap.size := ⟨_, rfl⟩
  obtain ⟨g, hgg⟩ : ∃ g, g = w.heap.size + 1 := ⟨_, rfl⟩
  rw [← hrr] at hz3
  rw [← hgg] at hg3 ⊢
  rw [← hrr]
  have hlt := blk_lt hz3
  have hltg := blk_lt hg3
  have z0 := (blk_cell hz3 0).trans rfl
  have g0 := (blk_cell hg3 0).trans rfl
  have z1 := (blk_cell hz3 1).trans rfl
  have g1 := (blk_cell hg3 1).trans rfl
  have z2 := (blk_cell hz3 2).trans rfl
  have g2 := (blk_cell hg3 2).trans rfl
  have z3 := (blk_cell hz3 3).trans rfl
  have g3 := (blk_cell hg3 3).trans rfl
  have z4 := (blk_cell hz3 4).trans rfl
  have g4 := (blk_cell hg3 4).trans rfl
  have z5 := (blk_cell hz3 5).trans rfl
  have g5 := (blk_cell hg3 5).trans rfl
  have z6 := (blk_cell hz3 6).trans rfl
  have g6 := (blk_cell hg3 6).trans rfl
  have z7 := (blk_cell hz3 7).trans rfl
  have g7 := (blk_cell hg3 7).trans rfl
  have z8 := (blk_cell hz3 8).trans rfl
  have g8 := (blk_cell hg3 8).trans rfl
  have fz := blk_frozen hz3
  have HF := Aside0.mk (And.intro hz3 (And.intro hB3 hrr))
  clear hb3 hW2 hz2 hg2 hbW hb3' hz3 hg3 hB3 hrr hgg
  by_cases hz0 : z = 0
  · subst hz0
    go_wp2_with fail
    refine bodyPost_ret (results_cell_row2 rfl _ _ r 56 #[.int .i64 2, .int .u32 (adAt l 4), .int .u32 (adAt l 8), .int .u32 (adAt l 12), .int .u32 (adAt l 16), .int .i64 0, .int .i64 0, .bool false, .slice none 0 0] (0, 0) _ rfl (blk_put9 HF.out.1) hu rfl (by kernel_rfl)) rfl ?_
    refine ⟨by first | rfl | (rw [if_pos rfl]; rfl), ?_⟩
    iterate 9 (refine Below.setCell ?_ (Nat.le_of_eq HF.out.2.2.symm) _)
    exact HF.out.2.1
  · have HZ0 := Aside0.mk hz0
    have hzb : (z != 0) = true := bne_iff_ne.2 hz0
    have hzd : decide (z = 0) = false := decide_eq_false hz0
    have hze : (z == 0) = false := beq_eq_false_iff_ne.2 hz0
    go_wp2_with fail
    refine bodyPost_ret (results_cell_row2 rfl _ _ r 56 #[.int .i64 0, .int .u32 0, .int .u32 0, .int .u32 0, .int .u32 0, .int .i64 0, .int .i64 0, .bool false, .slice none 0 0] (0, 0) _ rfl (blk_put9 HF.out.1) hu rfl (by kernel_rfl)) rfl ?_
    refine ⟨by first | rfl | (rw [if_neg HZ0.out]; rfl), ?_⟩
    iterate 9 (refine Below.setCell ?_ (Nat.le_of_eq HF.out.2.2.symm) _)
    exact HF.out.2.1
end Go.Proofs.YtbgbplbkombfjaaDoor
namespace Go.Proofs.YtbgbplbkombfjaaDoor
open Go.RowKit Go.Proofs.YtbgbplbkombfjaaDoorW.PrintWords SumPlain
set_option linter.unusedVariables false
set_option linter.unusedSimpArgs false
attribute [local go_sem] setCell_drewN alloc_drewN
set_option maxHeartbeats 4000000 in
set_option maxRecDepth 100000 in
theorem rread_end3 (A : Option Addr) (n c : Nat) (l : List Int) (w : World) (hr : Kd.C (Kd.int .u8) w A n l) (hby : Byt l) (hl : l.length ≤ 1000000) (h4 : 4 ≤ n) (hz : ofL l = 0) (h1 : l.getD 1 0 = 0) (h0 : l.getD 0 0 = 35) (hs : n < 18) :
    Calls Tryd.prog 35 #[.slice A n c] w fun e w' => ∃ A1 n1 c1, e = .returned (.tuple #[.agg (zMsg.cells (.slice A1 n1 c1)), .int .i64 101]) ∧ Kd.C (Kd.int .u32) w' A1 n1 zMsg.l ∧ Below w.heap.size w w' := by
  have hu := Tryd.underlying56
  have hu3 := Tryd.underlying53
  have hb := below_alloc (Below.refl w.heap.size w) (.cells #[.int .i64 0, .int .u32 0, .int .u32 0, .int .u32 0, .int .u32 0, .int .i64 0, .int .i64 0, .bool false, .slice none 0 0] 56)
  have HR := Aside0.mk (And.intro (Kd.C_below hr hb) (And.intro hby hl))
  have hmx := Kd.C_max hr
  obtain ⟨ad, b0, rfl, _, _⟩ := at_nat hr 0 (by omega)
  have c1 := pw_cell_below hb (cells_of hr 1 (by omega) (by omega))
  have c0 := pw_cell_below hb (cell0_of hr (by omega))
  rw [h1] at c1
  rw [h0] at c0
  have hzt : (ofL l != 0) = false := bne_eq_false_iff_eq.2 hz
  clear hr hb hz hby hl h1 h0
  go_enter Tryd.func35, Tryd.ntmps35
  go_wp2_with fail
  refine (refsum_any (some ad) _ c l _ HR.out.1 HR.out.2.1 HR.out.2.2).mono ?_
  rintro e w1 ⟨rfl, rfl⟩
  go_wp2_with fail
  refine (rsize_3 _).mono ?_
  rintro e w1 ⟨rfl, rfl⟩
  go_wp2
  all_goals go_returns
  all_goals exact ⟨none, 0, 0, rfl, nil_C _, by repeat' (first | exact Below.refl _ _ | exact Nat.le_refl _ | (refine below_drew ?_) | (refine pw_below_drewN ?_ _) | (refine below_alloc ?_ _) | (refine Below.setCell ?_ ?_ _) | (simp; done) | omega)⟩
set_option maxHeartbeats 4000000 in
set_option maxRecDepth 100000 in
theorem rread_long3 (A : Option Addr) (n c : Nat) (l : List Int) (w : World) (hr : Kd.C (Kd.int .u8) w A n l) (hby : Byt l) (hl : l.length ≤ 1000000) (h4 : 4 ≤ n) (hz : ofL l = 0) (h1 : l.getD 1 0 = 0) (h0 : l.getD 0 0 = 35) (hs : 18 < n) :
    Calls Tryd.prog 35 #[.slice A n c] w fun e w' => ∃ A1 n1 c1, e = .returned (.tuple #[.agg (zMsg.cells (.slice A1 n1 c1)), .int .i64 102]) ∧ Kd.C (Kd.int .u32) w' A1 n1 zMsg.l ∧ Below w.heap.size w w' := by
  have hu := Tryd.underlying56
  have hu3 := Tryd.underlying53
  have hb := below_alloc (Below.refl w.heap.size w) (.cells #[.int .i64 0, .int .u32 0, .int .u32 0, .int .u32 0, .int .u32 0, .int .i64 0, .int .i64 0, .bool false, .slice none 0 0] 56)
  have HR := Aside0.mk (And.intro (Kd.C_below hr hb) (And.intro hby hl))
  have hmx := Kd.C_max hr
  obtain ⟨ad, b0, rfl, _, _⟩ := at_nat hr 0 (by omega)
  have c1 := pw_cell_below hb (cells_of hr 1 (by omega) (by omega))
  have c0 := pw_cell_below hb (cell0_of hr (by omega))
  rw [h1] at c1
  rw [h0] at c0
  have hzt : (ofL l != 0) = false := bne_eq_false_iff_eq.2 hz
  clear hr hb hz hby hl h1 h0
  have hd : decide ((18 : Int) < (n : Int)) = true := decide_eq_true (by omega)
  go_enter Tryd.func35, Tryd.ntmps35
  go_wp2_with fail
  refine (refsum_any (some ad) _ c l _ HR.out.1 HR.out.2.1 HR.out.2.2).mono ?_
  rintro e w1 ⟨rfl, rfl⟩
  go_wp2_with fail
  refine (rsize_3 _).mono ?_
  rintro e w1 ⟨rfl, rfl⟩
  go_wp2
  all_goals go_returns
  all_goals exact ⟨none, 0, 0, rfl, nil_C _, by repeat' (first | exact Below.refl _ _ | exact Nat.le_refl _ | (refine below_drew ?_) | (refine pw_below_drewN ?_ _) | (refine below_alloc ?_ _) | (refine Below.setCell ?_ ?_ _) | (simp; done) | omega)⟩
set_option maxHeartbeats 4000000 in
set_option maxRecDepth 100000 in
theorem rread_at3 (A : Option Addr) (n c : Nat) (l : List Int) (w : World) (hr : Kd.C (Kd.int .u8) w A n l) (hby : Byt l) (hl : l.length ≤ 1000000) (h4 : 4 ≤ n) (hz : ofL l = 0) (h1 : l.getD 1 0 = 0) (h0 : l.getD 0 0 = 35) (hs : n = 18) :
    Calls Tryd.prog 35 #[.slice A n c] w fun e w' => e = .returned (.tuple #[.agg ((if codeOf (validL (posM 3 l)) = 0 then posM 3 l else zMsg).cells (.slice none 0 0)), .int .i64 (codeOf (validL (posM 3 l)))]) ∧ Below w.heap.size w w' := by
  have hu := Tryd.underlying56
  have hu3 := Tryd.underlying53
  have hb := below_alloc (Below.refl w.heap.size w) (.cells #[.int .i64 0, .int .u32 0, .int .u32 0, .int .u32 0, .int .u32 0, .int .i64 0, .int .i64 0, .bool false, .slice none 0 0] 56)
  have HR := Aside0.mk (And.intro (Kd.C_below hr hb) (And.intro hby hl))
  have hmx := Kd.C_max hr
  obtain ⟨ad, b0, rfl, _, _⟩ := at_nat hr 0 (by omega)
  have c1 := pw_cell_below hb (cells_of hr 1 (by omega) (by omega))
  have c0 := pw_cell_below hb (cell0_of hr (by omega))
  rw [h1] at c1
  rw [h0] at c0
  have hzt : (ofL l != 0) = false := bne_eq_false_iff_eq.2 hz
  have HC := Aside0.mk (And.intro hr (And.intro hby hl))
  obtain ⟨k16, k16'⟩ := byt_getD hby 16
  have q16 := cells_of hr 16 (by omega) (by omega)
  obtain ⟨k17, k17'⟩ := byt_getD hby 17
  have q17 := cells_of hr 17 (by omega) (by omega)
  have hwf := posM_wf 3 l hby
  generalize e16 : l.getD 16 0 = b16 at *
  have G16 := Aside0.mk e16
  clear e16
  generalize e17 : l.getD 17 0 = b17 at *
  have G17 := Aside0.mk e17
  clear e17
  have E1 := or64_8 b16 b17 k16 k16' k17 k17'
  obtain ⟨i16, j16⟩ := i64_byte b16 k16 k16'
  obtain ⟨i17, j17⟩ := i64_byte b17 k17 k17'
  have HM : posM 3 l = ⟨3, (adAt l 4), 0, (adAt l 8), (adAt l 12), 0, (b16 * 256 + b17), false, []⟩ := by rw [← G16.out, ← G17.out]; simp [posM, nuAt]
  rw [HM] at hwf ⊢
  obtain ⟨z, hzz⟩ : ∃ z, z = codeOf (validL ⟨3, (adAt l 4), 0, (adAt l 8), (adAt l 12), 0, (b16 * 256 + b17), false, []⟩) := ⟨_, rfl⟩
  rw [← hzz]
  have HZ := Aside0.mk (And.intro hwf hzz)
  subst hs
  clear hr hb hz hby hl h1 h0 hwf hzz HM
  go_enter Tryd.func35, Tryd.ntmps35
  go_wp2_with fail
  refine (refsum_any (some ad) _ c l _ HR.out.1 HR.out.2.1 HR.out.2.2).mono ?_
  rintro e w1 ⟨rfl, rfl⟩
  go_wp2_with fail
  refine (rsize_3 _).mono ?_
  rintro e w1 ⟨rfl, rfl⟩
  go_wp2_with fail
  clear c0 c1 HR
  refine (at_any (some ad) _ c l 4 4 rfl (by omega) _ (Kd.C_below HC.out.1 (by repeat' (first | exact Below.refl _ _ | (refine below_drew ?_) | (refine pw_below_drewN ?_ _) | (refine below_alloc ?_ _)))) HC.out.2.1 HC.out.2.2).mono ?_
  rintro e wq ⟨rfl, ⟨m4, rfl⟩⟩
  go_wp2_with fail
  refine (at_any (some ad) _ c l 8 8 rfl (by omega) _ (Kd.C_below HC.out.1 (by repeat' (first | exact Below.refl _ _ | (refine below_drew ?_) | (refine pw_below_drewN ?_ _) | (refine below_alloc ?_ _)))) HC.out.2.1 HC.out.2.2).mono ?_
  rintro e wq ⟨rfl, ⟨m8, rfl⟩⟩
  go_wp2_with fail
  refine (at_any (some ad) _ c l 12 12 rfl (by omega) _ (Kd.C_below HC.out.1 (by repeat' (first | exact Below.refl _ _ | (refine below_drew ?_) | (refine pw_below_drewN ?_ _) | (refine below_alloc ?_ _)))) HC.out.2.1 HC.out.2.2).mono ?_
  rintro e wq ⟨rfl, ⟨m12, rfl⟩⟩
  go_wp2_with fail
  refine wp_region_held_drew (S := (fun w' => w'.cell? ⟨ad.block, ad.off + 16, none⟩ = some (.int .u8 b16) ∧ w'.cell? ⟨ad.block, ad.off + 17, none⟩ = some (.int .u8 b17))) (by kernel_rfl) ?_ (fun hHeld => ?_)
  · (refine (fun hK : Below w.heap.size w _ => ⟨pw_cell_below hK q16, pw_cell_below hK q17⟩) ?_; repeat' (first | exact Below.refl _ _ | exact Nat.le_refl _ | (refine below_drew ?_) | (refine pw_below_drewN ?_ _) | (refine below_alloc ?_ _) | (refine Below.setCell ?_ ?_ _) | (simp; done) | omega))
  refine wpAnyH_take (i := 0) (v := ?_) rfl (by kernel_rfl) (by kernel_rfl) (by kernel_rfl) (fun _ _ _ h => h) (Or.inl ⟨by rfl, ?_⟩) (by assumption) ?_
  rotate_left 1
  · intro w hSw; (try dsimp only at hSw); go_simp; try with_reducible rfl
  try simp only [Act.put, List.getElem_toArray, List.getElem_cons_zero, List.getElem_cons_succ, List.setIfInBounds_toArray, List.set_cons_zero, List.set_cons_succ]
  refine wpAnyH_take (i := 1) (v := ?_) rfl (by kernel_rfl) (by kernel_rfl) (by kernel_rfl) (fun _ _ _ h => h) (Or.inl ⟨by rfl, ?_⟩) (by assumption) ?_
  rotate_left 1
  · intro w hSw; (try dsimp only at hSw); go_simp; try with_reducible rfl
  try simp only [Act.put, List.getElem_toArray, List.getElem_cons_zero, List.getElem_cons_succ, List.setIfInBounds_toArray, List.set_cons_zero, List.set_cons_succ]
  refine wpAnyH_take (i := 2) (v := ?_) rfl (by kernel_rfl) (by kernel_rfl) (by kernel_rfl) (fun _ _ _ h => h) (Or.inl ⟨by rfl, ?_⟩) (by assumption) ?_
  rotate_left 1
  · intro w hSw; (try dsimp only at hSw); go_simp; try with_reducible rfl
  try simp only [Act.put, List.getElem_toArray, List.getElem_cons_zero, List.getElem_cons_succ, List.setIfInBounds_toArray, List.set_cons_zero, List.set_cons_succ]
  refine wpAnyH_take (i := 3) (v := ?_) rfl (by kernel_rfl) (by kernel_rfl) (by kernel_rfl) (fun _ _ _ h => h) (Or.inl ⟨by rfl, ?_⟩) (by assumption) ?_
  rotate_left 1
  · intro w hSw; (try dsimp only at hSw); go_simp; try with_reducible rfl
  try simp only [Act.put, List.getElem_toArray, List.getElem_cons_zero, List.getElem_cons_succ, List.setIfInBounds_toArray, List.set_cons_zero, List.set_cons_succ]
  refine wpAnyH_take (i := 4) (v := ?_) rfl (by kernel_rfl) (by kernel_rfl) (by kernel_rfl) (fun _ _ _ h => h) (Or.inl ⟨by rfl, ?_⟩) (by assumption) ?_
  rotate_left 1
  · intro w hSw; (try dsimp only at hSw); go_simp; try with_reducible rfl
  try simp only [Act.put, List.getElem_toArray, List.getElem_cons_zero, List.getElem_cons_succ, List.setIfInBounds_toArray, List.set_cons_zero, List.set_cons_succ]
  refine wpAnyH_take (i := 5) (v := ?_) rfl (by kernel_rfl) (by kernel_rfl) (by kernel_rfl) (fun _ _ _ h => h) (Or.inl ⟨by rfl, ?_⟩) (by assumption) ?_
  rotate_left 1
  · intro w hSw; (try dsimp only at hSw); go_simp; try with_reducible rfl
  try simp only [Act.put, List.getElem_toArray, List.getElem_cons_zero, List.getElem_cons_succ, List.setIfInBounds_toArray, List.set_cons_zero, List.set_cons_succ]
  refine wpAnyH_take (i := 6) (v := ?_) rfl (by kernel_rfl) (by kernel_rfl) (by kernel_rfl) (fun _ _ _ h => h) (Or.inl ⟨by rfl, ?_⟩) (by assumption) ?_
  rotate_left 1
  · intro w hSw; (try dsimp only at hSw); go_simp; try with_reducible rfl
  try simp only [Act.put, List.getElem_toArray, List.getElem_cons_zero, List.getElem_cons_succ, List.setIfInBounds_toArray, List.set_cons_zero, List.set_cons_succ]
  refine wpAnyH_take (i := 7) (v := ?_) rfl (by kernel_rfl) (by kernel_rfl) (by kernel_rfl) (fun _ _ _ h => h) (Or.inl ⟨by rfl, ?_⟩) (by assumption) ?_
  rotate_left 1
  · intro w hSw; (try dsimp only at hSw); go_simp; try with_reducible rfl
  try simp only [Act.put, List.getElem_toArray, List.getElem_cons_zero, List.getElem_cons_succ, List.setIfInBounds_toArray, List.set_cons_zero, List.set_cons_succ]
  refine wpAnyH_take (i := 8) (v := ?_) rfl (by kernel_rfl) (by kernel_rfl) (by kernel_rfl) (fun _ _ _ h => h) (Or.inl ⟨by rfl, ?_⟩) (by assumption) ?_
  rotate_left 1
  · intro w hSw; (try dsimp only at hSw); go_simp; try with_reducible rfl
  try simp only [Act.put, List.getElem_toArray, List.getElem_cons_zero, List.getElem_cons_succ, List.setIfInBounds_toArray, List.set_cons_zero, List.set_cons_succ]
  refine wpAnyH_take (i := 9) (v := ?_) rfl (by kernel_rfl) (by kernel_rfl) (by kernel_rfl) (fun _ _ _ h => h) (Or.inl ⟨by rfl, ?_⟩) (by assumption) ?_
  rotate_left 1
  · intro w hSw; (try dsimp only at hSw); go_simp; try with_reducible rfl
  try simp only [Act.put, List.getElem_toArray, List.getElem_cons_zero, List.getElem_cons_succ, List.setIfInBounds_toArray, List.set_cons_zero, List.set_cons_succ]
  refine wpAnyH_take (i := 10) (v := ?_) rfl (by kernel_rfl) (by kernel_rfl) (by kernel_rfl) (fun _ _ _ h => h) (Or.inl ⟨by rfl, ?_⟩) (by assumption) ?_
  rotate_left 1
  · intro w hSw; (try dsimp only at hSw); go_simp; try with_reducible rfl
  try simp only [Act.put, List.getElem_toArray, List.getElem_cons_zero, List.getElem_cons_succ, List.setIfInBounds_toArray, List.set_cons_zero, List.set_cons_succ]
  refine wpAnyH_ready (rs := [11]) (by kernel_rfl) (by simp) ?_
  refine AllReadyH.cons rfl (fun K hK => ?_) ?_
  · go_simp
    refine hK.out _ _ ?_ (fun hHeld => ?_)
    · (refine (fun hK : Below w.heap.size w _ => ⟨pw_cell_below hK q16, pw_cell_below hK q17⟩) ?_; repeat' (first | exact Below.refl _ _ | exact Nat.le_refl _ | (refine below_drew ?_) | (refine pw_below_drewN ?_ _) | (refine below_alloc ?_ _) | (refine Below.setCell ?_ ?_ _) | (simp; done) | omega))
    clear hK K
    try simp only [Act.put, List.getElem_toArray, List.getElem_cons_zero, List.getElem_cons_succ, List.setIfInBounds_toArray, List.set_cons_zero, List.set_cons_succ]
    refine wpAnyH_done (by kernel_rfl) ?_ _
    go_wp2_with fail
    refine (rvalid_any ⟨3, (adAt l 4), 0, (adAt l 8), (adAt l 12), 0, (b16 * 256 + b17), false, []⟩ none 0 0 _ HZ.out.1 (nil_C _)).mono ?_
    rintro e w3 ⟨rfl, hb3⟩
    rw [← HZ.out.2]
    obtain ⟨W2, hW2⟩ : ∃ W2, W2 = (w.alloc (.cells #[.int .i64 0, .int .u32 0, .int .u32 0, .int .u32 0, .int .u32 0, .int .i64 0, .int .i64 0, .bool false, .slice none 0 0] 56)).alloc (.cells #[.int .i64 3, .int .u32 (adAt l 4), .int .u32 0, .int .u32 (adAt l 8), .int .u32 (adAt l 12), .int .i64 0, .int .i64 (b16 * 256 + b17), .bool false, .slice none 0 0] 56) := ⟨_, rfl⟩
    have hz2 : W2.heap[w.heap.size]? = some (.cells #[.int .i64 0, .int .u32 0, .int .u32 0, .int .u32 0, .int .u32 0, .int .i64 0, .int .i64 0, .bool false, .slice none 0 0] 56 (0, 0)) := by rw [hW2]; exact blk_alloc (heap_alloc_new w _) _
    have hg2 : W2.heap[w.heap.size + 1]? = some (.cells #[.int .i64 3, .int .u32 (adAt l 4), .int .u32 0, .int .u32 (adAt l 8), .int .u32 (adAt l 12), .int .i64 0, .int .i64 (b16 * 256 + b17), .bool false, .slice none 0 0] 56 (0, 0)) := by rw [hW2]; exact new_at _ _ _ (by simp)
    have hbW : Below w.heap.size w W2 := by rw [hW2]; exact below_alloc (below_alloc (Below.refl _ _) _) _
    rw [← hW2] at hb3
    have hb3' : Below W2.heap.size W2 w3 := by
      refine below_then ?_ ?_ hb3
      · repeat' (first | exact Below.refl _ _ | (refine below_drew ?_) | (refine pw_below_drewN ?_ _))
      · exact Nat.le_refl _
    have hz3 := blk_below hz2 hb3'
    have hg3 := blk_below hg2 hb3'
    have hB3 := reach_to hbW hbW.size hb3'
    obtain ⟨r, hrr⟩ : ∃ r, r = w.heap.size := ⟨_, rfl⟩
    obtain ⟨g, hgg⟩ : ∃ g, g = w.heap.size + 1 := ⟨_, rfl⟩
    rw [← hrr] at hz3
    rw [← hgg] at hg3 ⊢
    rw [← hrr]
    have hlt := blk_lt hz3
    have hltg := blk_lt hg3
    have z0 := (blk_cell hz3 0).trans rfl
    have g0 := (blk_cell hg3 0).trans rfl
    have z1 := (blk_cell hz3 1).trans rfl
    have g1 := (blk_cell hg3 1).trans rfl
    have z2 := (blk_cell hz3 2).trans rfl
    have g2 := (blk_cell hg3 2).trans rfl
    have z3 := (blk_cell hz3 3).trans rfl
    have g3 := (blk_cell hg3 3).trans rfl
    have z4 := (blk_cell hz3 4).trans rfl
    have g4 := (blk_cell hg3 4).trans rfl
    have z5 := (blk_cell hz3 5).trans rfl
    have g5 := (blk_cell hg3 5).trans rfl
    have z6 := (blk_cell hz3 6).trans rfl
    have g6 := (blk_cell hg3 6).trans rfl
    have z7 := (blk_cell hz3 7).trans rfl
    have g7 := (blk_cell hg3 7).trans rfl
    have z8 := (blk_cell hz3 8).trans rfl
    have g8 := (blk_cell hg3 8).trans rfl
    have fz := blk_frozen hz3
    have HF := Aside0.mk (And.intro hz3 (And.intro hB3 hrr))
    clear hb3 hW2 hz2 hg2 hbW hb3' hz3 hg3 hB3 hrr hgg
    by_cases hz0 : z = 0
    · subst hz0
      go_wp2_with fail
      refine bodyPost_ret (results_cell_row2 rfl _ _ r 56 #[.int .i64 3, .int .u32 (adAt l 4), .int .u32 0, .int .u32 (adAt l 8), .int .u32 (adAt l 12), .int .i64 0, .int .i64 (b16 * 256 + b17), .bool false, .slice none 0 0] (0, 0) _ rfl (blk_put9 HF.out.1) hu rfl (by kernel_rfl)) rfl ?_
      refine ⟨by first | rfl | (rw [if_pos rfl]; rfl), ?_⟩
      iterate 9 (refine Below.setCell ?_ (Nat.le_of_eq HF.out.2.2.symm) _)
      exact HF.out.2.1
    · have HZ0 := Aside0.mk hz0
      have hzb : (z != 0) = true := bne_iff_ne.2 hz0
      have hzd : decide (z = 0) = false := decide_eq_false hz0
      have hze : (z == 0) = false := beq_eq_false_iff_ne.2 hz0
      go_wp2_with fail
      refine bodyPost_ret (results_cell_row2 rfl _ _ r 56 #[.int .i64 0, .int .u32 0, .int .u32 0, .int .u32 0, .int .u32 0, .int .i64 0, .int .i64 0, .bool false, .slice none 0 0] (0, 0) _ rfl (blk_put9 HF.out.1) hu rfl (by kernel_rfl)) rfl ?_
      refine ⟨by first | rfl | (rw [if_neg HZ0.out]; rfl), ?_⟩
      iterate 9 (refine Below.setCell ?_ (Nat.le_of_eq HF.out.2.2.symm) _)
      exact HF.out.2.1
  · exact AllReadyH.nil
end Go.Proofs.YtbgbplbkombfjaaDoor
namespace Go.Proofs.YtbgbplbkombfjaaDoor
open Go.RowKit Go.Proofs.YtbgbplbkombfjaaDoorW.PrintWords SumPlain
set_option linter.unusedVariables false
set_option linter.unusedSimpArgs false
attribute [local go_sem] setCell_drewN alloc_drewN
set_option maxHeartbeats 4000000 in
set_option maxRecDepth 100000 in
theorem rread_end4 (A : Option Addr) (n c : Nat) (l : List Int) (w : World) (hr : Kd.C (Kd.int .u8) w A n l) (hby : Byt l) (hl : l.length ≤ 1000000) (h4 : 4 ≤ n) (hz : ofL l = 0) (h1 : l.getD 1 0 = 0) (h0 : l.getD 0 0 = 36) (hs : n < 14) :
    Calls Tryd.prog 35 #[.slice A n c] w fun e w' => ∃ A1 n1 c1, e = .returned (.tuple #[.agg (zMsg.cells (.slice A1 n1 c1)), .int .i64 101]) ∧ Kd.C (Kd.int .u32) w' A1 n1 zMsg.l ∧ Below w.heap.size w w' := by
  have hu := Tryd.underlying56
  have hu3 := Tryd.underlying53
  have hb := below_alloc (Below.refl w.heap.size w) (.cells #[.int .i64 0, .int .u32 0, .int .u32 0, .int .u32 0, .int .u32 0, .int .i64 0, .int .i64 0, .bool false, .slice none 0 0] 56)
  have HR := Aside0.mk (And.intro (Kd.C_below hr hb) (And.intro hby hl))
  have hmx := Kd.C_max hr
  obtain ⟨ad, b0, rfl, _, _⟩ := at_nat hr 0 (by omega)
  have c1 := pw_cell_below hb (cells_of hr 1 (by omega) (by omega))
  have c0 := pw_cell_below hb (cell0_of hr (by omega))
  rw [h1] at c1
  rw [h0] at c0
  have hzt : (ofL l != 0) = false := bne_eq_false_iff_eq.2 hz
  clear hr hb hz hby hl h1 h0
  go_enter Tryd.func35, Tryd.ntmps35
  go_wp2_with fail
  refine (refsum_any (some ad) _ c l _ HR.out.1 HR.out.2.1 HR.out.2.2).mono ?_
  rintro e w1 ⟨rfl, rfl⟩
  go_wp2_with fail
  refine (rsize_4 _).mono ?_
  rintro e w1 ⟨rfl, rfl⟩
  go_wp2
  all_goals go_returns
  all_goals exact ⟨none, 0, 0, rfl, nil_C _, by repeat' (first | exact Below.refl _ _ | exact Nat.le_refl _ | (refine below_drew ?_) | (refine pw_below_drewN ?_ _) | (refine below_alloc ?_ _) | (refine Below.setCell ?_ ?_ _) | (simp; done) | omega)⟩
set_option maxHeartbeats 4000000 in
set_option maxRecDepth 100000 in
theorem rread_end4b (A : Option Addr) (n c : Nat) (l : List Int) (w : World) (hr : Kd.C (Kd.int .u8) w A n l) (hby : Byt l) (hl : l.length ≤ 1000000) (h4 : 4 ≤ n) (hz : ofL l = 0) (h1 : l.getD 1 0 = 0) (h0 : l.getD 0 0 = 36) (h14 : 14 ≤ n) (hs : n < 14 + 4 * (l.getD 13 0).toNat) :
    Calls Tryd.prog 35 #[.slice A n c] w fun e w' => ∃ A1 n1 c1, e = .returned (.tuple #[.agg (zMsg.cells (.slice A1 n1 c1)), .int .i64 101]) ∧ Kd.C (Kd.int .u32) w' A1 n1 zMsg.l ∧ Below w.heap.size w w' := by
  have hu := Tryd.underlying56
  have hu3 := Tryd.underlying53
  have hb := below_alloc (Below.refl w.heap.size w) (.cells #[.int .i64 0, .int .u32 0, .int .u32 0, .int .u32 0, .int .u32 0, .int .i64 0, .int .i64 0, .bool false, .slice none 0 0] 56)
  have HR := Aside0.mk (And.intro (Kd.C_below hr hb) (And.intro hby hl))
  have hmx := Kd.C_max hr
  obtain ⟨ad, b0, rfl, _, _⟩ := at_nat hr 0 (by omega)
  have c1 := pw_cell_below hb (cells_of hr 1 (by omega) (by omega))
  have c0 := pw_cell_below hb (cell0_of hr (by omega))
  rw [h1] at c1
  rw [h0] at c0
  have hzt : (ofL l != 0) = false := bne_eq_false_iff_eq.2 hz
  obtain ⟨k13, k13'⟩ := byt_getD hby 13
  have c13 := pw_cell_below (below_alloc hb (.cells #[.int .i64 4, .int .u32 0, .int .u32 0, .int .u32 0, .int .u32 0, .int .i64 0, .int .i64 0, .bool false, .slice none 0 0] 56)) (cells_of hr 13 (by omega) (by omega))
  obtain ⟨k, hk⟩ := Int.eq_ofNat_of_zero_le k13
  rw [hk] at c13 k13'
  have hk255 : k ≤ 255 := by omega
  have hcnt : (l.getD 13 0).toNat = k := by rw [hk]; rfl
  rw [hcnt] at hs
  clear hr hb hz hby hl h1 h0 hk k13 hcnt
  have hd : decide ((n : Int) < 14 + 4 * (k : Int)) = true := decide_eq_true (by omega)
  go_enter Tryd.func35, Tryd.ntmps35
  go_wp2_with fail
  refine (refsum_any (some ad) _ c l _ HR.out.1 HR.out.2.1 HR.out.2.2).mono ?_
  rintro e w1 ⟨rfl, rfl⟩
  go_wp2_with fail
  refine (rsize_4 _).mono ?_
  rintro e w1 ⟨rfl, rfl⟩
  go_wp2
  all_goals go_returns
  all_goals exact ⟨none, 0, 0, rfl, nil_C _, by repeat' (first | exact Below.refl _ _ | exact Nat.le_refl _ | (refine below_drew ?_) | (refine pw_below_drewN ?_ _) | (refine below_alloc ?_ _) | (refine Below.setCell ?_ ?_ _) | (simp; done) | omega)⟩
set_option maxHeartbeats 4000000 in
set_option maxRecDepth 100000 in
theorem rread_long4 (A : Option Addr) (n c : Nat) (l : List Int) (w : World) (hr : Kd.C (Kd.int .u8) w A n l) (hby : Byt l) (hl : l.length ≤ 1000000) (h4 : 4 ≤ n) (hz : ofL l = 0) (h1 : l.getD 1 0 = 0) (h0 : l.getD 0 0 = 36) (h14 : 14 ≤ n) (hs : 14 + 4 * (l.getD 13 0).toNat < n) :
    Calls Tryd.prog 35 #[.slice A n c] w fun e w' => ∃ A1 n1 c1, e = .returned (.tuple #[.agg (zMsg.cells (.slice A1 n1 c1)), .int .i64 102]) ∧ Kd.C (Kd.int .u32) w' A1 n1 zMsg.l ∧ Below w.heap.size w w' := by
  have hu := Tryd.underlying56
  have hu3 := Tryd.underlying53
  have hb := below_alloc (Below.refl w.heap.size w) (.cells #[.int .i64 0, .int .u32 0, .int .u32 0, .int .u32 0, .int .u32 0, .int .i64 0, .int .i64 0, .bool false, .slice none 0 0] 56)
  have HR := Aside0.mk (And.intro (Kd.C_below hr hb) (And.intro hby hl))
  have hmx := Kd.C_max hr
  obtain ⟨ad, b0, rfl, _, _⟩ := at_nat hr 0 (by omega)
  have c1 := pw_cell_below hb (cells_of hr 1 (by omega) (by omega))
  have c0 := pw_cell_below hb (cell0_of hr (by omega))
  rw [h1] at c1
  rw [h0] at c0
  have hzt : (ofL l != 0) = false := bne_eq_false_iff_eq.2 hz
  obtain ⟨k13, k13'⟩ := byt_getD hby 13
  have c13 := pw_cell_below (below_alloc hb (.cells #[.int .i64 4, .int .u32 0, .int .u32 0, .int .u32 0, .int .u32 0, .int .i64 0, .int .i64 0, .bool false, .slice none 0 0] 56)) (cells_of hr 13 (by omega) (by omega))
  obtain ⟨k, hk⟩ := Int.eq_ofNat_of_zero_le k13
  rw [hk] at c13 k13'
  have hk255 : k ≤ 255 := by omega
  have hcnt : (l.getD 13 0).toNat = k := by rw [hk]; rfl
  rw [hcnt] at hs
  clear hr hb hz hby hl h1 h0 hk k13 hcnt
  have hd : decide ((n : Int) < 14 + 4 * (k : Int)) = false := decide_eq_false (by omega)
  have hd2 : decide (14 + 4 * (k : Int) < (n : Int)) = true := decide_eq_true (by omega)
  go_enter Tryd.func35, Tryd.ntmps35
  go_wp2_with fail
  refine (refsum_any (some ad) _ c l _ HR.out.1 HR.out.2.1 HR.out.2.2).mono ?_
  rintro e w1 ⟨rfl, rfl⟩
  go_wp2_with fail
  refine (rsize_4 _).mono ?_
  rintro e w1 ⟨rfl, rfl⟩
  go_wp2
  all_goals go_returns
  all_goals exact ⟨none, 0, 0, rfl, nil_C _, by repeat' (first | exact Below.refl _ _ | exact Nat.le_refl _ | (refine below_drew ?_) | (refine pw_below_drewN ?_ _) | (refine below_alloc ?_ _) | (refine Below.setCell ?_ ?_ _) | (simp; done) | omega)⟩
set_option maxHeartbeats 4000000 in
set_option maxRecDepth 100000 in
theorem rread_only4 (A : Option Addr) (n c : Nat) (l : List Int) (w : World) (hr : Kd.C (Kd.int .u8) w A n l) (hby : Byt l) (hl : l.length ≤ 1000000) (h4 : 4 ≤ n) (hz : ofL l = 0) (h1 : l.getD 1 0 = 0) (h0 : l.getD 0 0 = 36) (h14 : 14 ≤ n) (hs : n = 14 + 4 * (l.getD 13 0).toNat) (ho : 1 < l.getD 12 0) :
    Calls Tryd.prog 35 #[.slice A n c] w fun e w' => ∃ A1 n1 c1, e = .returned (.tuple #[.agg (zMsg.cells (.slice A1 n1 c1)), .int .i64 102]) ∧ Kd.C (Kd.int .u32) w' A1 n1 zMsg.l ∧ Below w.heap.size w w' := by
  have hu := Tryd.underlying56
  have hu3 := Tryd.underlying53
  have hb := below_alloc (Below.refl w.heap.size w) (.cells #[.int .i64 0, .int .u32 0, .int .u32 0, .int .u32 0, .int .u32 0, .int .i64 0, .int .i64 0, .bool false, .slice none 0 0] 56)
  have HR := Aside0.mk (And.intro (Kd.C_below hr hb) (And.intro hby hl))
  have hmx := Kd.C_max hr
  obtain ⟨ad, b0, rfl, _, _⟩ := at_nat hr 0 (by omega)
  have c1 := pw_cell_below hb (cells_of hr 1 (by omega) (by omega))
  have c0 := pw_cell_below hb (cell0_of hr (by omega))
  rw [h1] at c1
  rw [h0] at c0
  have hzt : (ofL l != 0) = false := bne_eq_false_iff_eq.2 hz
  obtain ⟨k13, k13'⟩ := byt_getD hby 13
  have c13 := pw_cell_below (below_alloc hb (.cells #[.int .i64 4, .int .u32 0, .int .u32 0, .int .u32 0, .int .u32 0, .int .i64 0, .int .i64 0, .bool false, .slice none 0 0] 56)) (cells_of hr 13 (by omega) (by omega))
  obtain ⟨k, hk⟩ := Int.eq_ofNat_of_zero_le k13
  rw [hk] at c13 k13'
  have hk255 : k ≤ 255 := by omega
  obtain ⟨k12, k12'⟩ := byt_getD hby 12
  have c12 := pw_cell_below (below_alloc hb (.cells #[.int .i64 4, .int .u32 0, .int .u32 0, .int .u32 0, .int .u32 0, .int .i64 0, .int .i64 0, .bool false, .slice none 0 0] 56)) (cells_of hr 12 (by omega) (by omega))
  have hcnt : (l.getD 13 0).toNat = k := by rw [hk]; rfl
  rw [hcnt] at hs
  have ho' : decide (1 < l.getD 12 0) = true := decide_eq_true ho
  generalize l.getD 12 0 = b12 at *
  clear hr hb hz hby hl h1 h0 hk k13 hcnt
  have hd : decide ((n : Int) < 14 + 4 * (k : Int)) = false := decide_eq_false (by omega)
  have hd2 : decide (14 + 4 * (k : Int) < (n : Int)) = false := decide_eq_false (by omega)
  clear hs
  go_enter Tryd.func35, Tryd.ntmps35
  go_wp2_with fail
  refine (refsum_any (some ad) _ c l _ HR.out.1 HR.out.2.1 HR.out.2.2).mono ?_
  rintro e w1 ⟨rfl, rfl⟩
  go_wp2_with fail
  refine (rsize_4 _).mono ?_
  rintro e w1 ⟨rfl, rfl⟩
  go_wp2
  all_goals go_returns
  all_goals exact ⟨none, 0, 0, rfl, nil_C _, by repeat' (first | exact Below.refl _ _ | exact Nat.le_refl _ | (refine below_drew ?_) | (refine pw_below_drewN ?_ _) | (refine below_alloc ?_ _) | (refine Below.setCell ?_ ?_ _) | (simp; done) | omega)⟩
set_option maxHeartbeats 4000000 in
set_option maxRecDepth 100000 in
theorem rread_at4 (A : Option Addr) (n c : Nat) (l : List Int) (w : World) (hr : Kd.C (Kd.int .u8) w A n l) (hby : Byt l) (hl : l.length ≤ 1000000) (h4 : 4 ≤ n) (hz : ofL l = 0) (h1 : l.getD 1 0 = 0) (h0 : l.getD 0 0 = 36) (h14 : 14 ≤ n) (hs : n = 14 + 4 * (l.getD 13 0).toNat) (ho : l.getD 12 0 ≤ 1) :
    Calls Tryd.prog 35 #[.slice A n c] w fun e w' => ∃ v, e = .returned (.tuple #[.agg ((if codeOf (validL (posM 4 l)) = 0 then posM 4 l else zMsg).cells v), .int .i64 (codeOf (validL (posM 4 l)))]) ∧ (Kd.int .u32).R 23 w' w.heap.size (fun _ => True) v (if codeOf (validL (posM 4 l)) = 0 then posM 4 l else zMsg).l ∧ Below w.heap.size w w' := by
  have hu := Tryd.underlying56
  have hu3 := Tryd.underlying53
  have hb := below_alloc (Below.refl w.heap.size w) (.cells #[.int .i64 0, .int .u32 0, .int .u32 0, .int .u32 0, .int .u32 0, .int .i64 0, .int .i64 0, .bool false, .slice none 0 0] 56)
  have HR := Aside0.mk (And.intro (Kd.C_below hr hb) (And.intro hby hl))
  have hmx := Kd.C_max hr
  obtain ⟨ad, b0, rfl, _, _⟩ := at_nat hr 0 (by omega)
  have c1 := pw_cell_below hb (cells_of hr 1 (by omega) (by omega))
  have c0 := pw_cell_below hb (cell0_of hr (by omega))
  rw [h1] at c1
  rw [h0] at c0
  have hzt : (ofL l != 0) = false := bne_eq_false_iff_eq.2 hz
  have HC := Aside0.mk (And.intro hr (And.intro hby hl))
  obtain ⟨k12, k12'⟩ := byt_getD hby 12
  obtain ⟨k13, k13'⟩ := byt_getD hby 13
  have q12 := cells_of hr 12 (by omega) (by omega)
  have q13 := cells_of hr 13 (by omega) (by omega)
  have hwf := posM_wf 4 l hby
  have hM0 : posM 4 l = ⟨4, adAt l 4, 0, 0, adAt l 8, 0, 0, decide (l.getD 12 0 = 1), adsAt l 14 (l.getD 13 0).toNat⟩ := by simp [posM]
  obtain ⟨k, hk⟩ := Int.eq_ofNat_of_zero_le k13
  have hcnt : (l.getD 13 0).toNat = k := by rw [hk]; rfl
  rw [hcnt] at hs hM0
  rw [hk] at q13 k13'
  have hdb : decide (l.getD 12 0 = 1) = (l.getD 12 0 == 1) := by by_cases h : l.getD 12 0 = 1; (rw [h]; rfl); (rw [decide_eq_false h, beq_eq_false_iff_ne.2 h])
  rw [hdb] at hM0
  have ho' : decide (1 < l.getD 12 0) = false := decide_eq_false (by omega)
  generalize l.getD 12 0 = ob at *
  rw [hM0] at hwf ⊢
  obtain ⟨z, hzz⟩ : ∃ z, z = codeOf (validL ⟨4, (adAt l 4), 0, 0, (adAt l 8), 0, 0, (ob == 1), adsAt l 14 k⟩) := ⟨_, rfl⟩
  rw [← hzz]
  have HZ := Aside0.mk (And.intro hwf hzz)
  have hk255 : k ≤ 255 := by omega
  have hn : n = 14 + 4 * k := hs
  have hd : decide ((n : Int) < 14 + 4 * (k : Int)) = false := decide_eq_false (by omega)
  have hd2 : decide (14 + 4 * (k : Int) < (n : Int)) = false := decide_eq_false (by omega)
  have c12 := pw_cell_below (below_alloc hb (.cells #[.int .i64 4, .int .u32 0, .int .u32 0, .int .u32 0, .int .u32 0, .int .i64 0, .int .i64 0, .bool false, .slice none 0 0] 56)) q12
  have c13 := pw_cell_below (below_alloc hb (.cells #[.int .i64 4, .int .u32 0, .int .u32 0, .int .u32 0, .int .u32 0, .int .i64 0, .int .i64 0, .bool false, .slice none 0 0] 56)) q13
  have HN := Aside0.mk hn
  clear hs hn hr hb hz hby hl h1 h0 hwf hzz hM0 hk hcnt hdb k13
  go_enter Tryd.func35, Tryd.ntmps35
  go_wp2_with fail
  refine (refsum_any (some ad) _ c l _ HR.out.1 HR.out.2.1 HR.out.2.2).mono ?_
  rintro e w1 ⟨rfl, rfl⟩
  go_wp2_with fail
  refine (rsize_4 _).mono ?_
  rintro e w1 ⟨rfl, rfl⟩
  go_wp2_with fail
  clear c0 c1 HR c12 c13
  refine (at_any (some ad) n c l 4 4 rfl (by have := HN.out; omega) _ (Kd.C_below HC.out.1 (by repeat' (first | exact Below.refl _ _ | (refine below_drew ?_) | (refine pw_below_drewN ?_ _) | (refine below_alloc ?_ _)))) HC.out.2.1 HC.out.2.2).mono ?_
  rintro e wq ⟨rfl, ⟨m4, rfl⟩⟩
  go_wp2_with fail
  refine (at_any (some ad) n c l 8 8 rfl (by have := HN.out; omega) _ (Kd.C_below HC.out.1 (by repeat' (first | exact Below.refl _ _ | (refine below_drew ?_) | (refine pw_below_drewN ?_ _) | (refine below_alloc ?_ _)))) HC.out.2.1 HC.out.2.2).mono ?_
  rintro e wq ⟨rfl, ⟨m8, rfl⟩⟩
  go_upto_region 33 with fail
  obtain ⟨W3, hW3⟩ : ∃ W3, W3 = ((w.alloc (.cells #[.int .i64 0, .int .u32 0, .int .u32 0, .int .u32 0, .int .u32 0, .int .i64 0, .int .i64 0, .bool false, .slice none 0 0] 56)).alloc (.cells #[.int .i64 4, .int .u32 (adAt l 4), .int .u32 0, .int .u32 0, .int .u32 (adAt l 8), .int .i64 0, .int .i64 0, .bool false, .slice none 0 0] 56)).drewN (m4 + m8) := ⟨_, rfl⟩
  rw [← hW3]
  have hz3 : W3.heap[w.heap.size]? = some (.cells #[.int .i64 0, .int .u32 0, .int .u32 0, .int .u32 0, .int .u32 0, .int .i64 0, .int .i64 0, .bool false, .slice none 0 0] 56 (0, 0)) := by rw [hW3]; exact blk_below (blk_alloc (heap_alloc_new w _) _) (pw_below_drewN (Below.refl _ _) _)
  have hg3 : W3.heap[w.heap.size + 1]? = some (.cells #[.int .i64 4, .int .u32 (adAt l 4), .int .u32 0, .int .u32 0, .int .u32 (adAt l 8), .int .i64 0, .int .i64 0, .bool false, .slice none 0 0] 56 (0, 0)) := by rw [hW3]; exact blk_below (new_at _ _ _ (by simp)) (pw_below_drewN (Below.refl _ _) _)
  have hB3 : Below w.heap.size w W3 := by rw [hW3]; exact pw_below_drewN (below_alloc (below_alloc (Below.refl _ _) _) _) _
  clear hW3
  obtain ⟨r, hrr⟩ : ∃ r, r = w.heap.size := ⟨_, rfl⟩
  obtain ⟨g, hgg⟩ : ∃ g, g = w.heap.size + 1 := ⟨_, rfl⟩
  rw [← hrr] at hz3
  rw [← hgg] at hg3 ⊢
  rw [← hrr]
  have c12 := pw_cell_below hB3 q12
  have fg := blk_frozen hg3
  have hltg := blk_lt hg3
  have p0 := (blk_cell hg3 0).trans rfl
  have p1 := (blk_cell hg3 1).trans rfl
  have p2 := (blk_cell hg3 2).trans rfl
  have p3 := (blk_cell hg3 3).trans rfl
  have p4 := (blk_cell hg3 4).trans rfl
  have p5 := (blk_cell hg3 5).trans rfl
  have p6 := (blk_cell hg3 6).trans rfl
  have p7 := (blk_cell hg3 7).trans rfl
  have p8 := (blk_cell hg3 8).trans rfl
  have HS := Aside0.mk (And.intro hz3 (And.intro hg3 (And.intro hB3 (And.intro hrr hgg))))
  clear hz3 hg3 hB3 hrr hgg q12 q13
  go_wp2_with fail
  clear c12 fg p0 p1 p2 p3 p4 p5 p6 p7 p8
  obtain ⟨hz3, hg3, hB3, hrr, hgg⟩ := HS.out
  obtain ⟨W4, hW4⟩ : ∃ W4, W4 = W3.setCell ⟨g, 6, none⟩ (.bool (ob == 1)) := ⟨_, rfl⟩
  skip
  have hz4 := blk_far hz3 (p := ⟨g, 7, none⟩) (show r ≠ g by omega) (.bool (ob == 1))
  have hg4 : (W3.setCell ⟨g, 7, none⟩ (.bool (ob == 1))).heap[g]? = some (.cells #[.int .i64 4, .int .u32 (adAt l 4), .int .u32 0, .int .u32 0, .int .u32 (adAt l 8), .int .i64 0, .int .i64 0, .bool (ob == 1), .slice none 0 0] 56 (0, 0)) := (blk_set hg3 7 _).trans rfl
  have hB4 : Below w.heap.size w (W3.setCell ⟨g, 7, none⟩ (.bool (ob == 1))) := Below.setCell hB3 (show w.heap.size ≤ g by omega) _
  have HG := Aside0.mk (And.intro hrr hgg)
  have HS4 := Aside0.mk (And.intro hz4 (And.intro hg4 hB4))
  clear hz3 hg3 hB3 hrr hgg hz4 hg4 hB4 HS hltg
  go_loopg [6] k (fun kk v6 wr => ∃ (j : Nat) (v : Value), j + kk = k ∧ v6 = .int .i64 (14 + 4 * (j : Int)) ∧ Aside0 ((Kd.int .u32).R 23 wr (g + 1) (fun i => g + 1 ≤ i) v (adsAt l 14 j) ∧ wr.heap[g]? = some (.cells #[.int .i64 4, .int .u32 (adAt l 4), .int .u32 0, .int .u32 0, .int .u32 (adAt l 8), .int .i64 0, .int .i64 0, .bool (ob == 1), v] 56 (0, 0)) ∧ wr.heap[r]? = some (.cells #[.int .i64 0, .int .u32 0, .int .u32 0, .int .u32 0, .int .u32 0, .int .i64 0, .int .i64 0, .bool false, .slice none 0 0] 56 (0, 0)) ∧ Below w.heap.size w wr))
  case atStart => exact ⟨0, .slice none 0 0, by omega, rfl, ⟨Kd.R_nil _ _ _ _ _, HS4.out.2.1, HS4.out.1, HS4.out.2.2⟩⟩
  case round =>
    obtain ⟨j, v, hj, rfl, HR⟩ := hrel
    by_cases hlt : j < k
    · have hd3 : decide (14 + 4 * (j : Int) < 14 + 4 * (k : Int)) = true := decide_eq_true (by omega)
      have HJ := Aside0.mk hlt
      have hm8 := (blk_cell HR.out.2.1 8).trans rfl
      have hgx : g < wr.heap.size := blk_lt HR.out.2.1
      have HLX : Aside0 (adsAt l 14 (j + 1) = adsAt l 14 j ++ [(adAt l (14 + 4 * j))]) := ⟨adsAt_snoc l 14 j⟩
      have HRL : Aside0 ((adsAt l 14 j).length = j) := ⟨by simp [adsAt]⟩
      have hw14 : IntKind.i64.wrap (14 + 4 * (j : Int) + 4) = 14 + 4 * ((j + 1 : Nat) : Int) := by rw [IntWalk.i64_in _ (by omega)]; omega
      go_wp2_with fail
      refine wp_region_held_drew (S := (fun _ => True)) (by kernel_rfl) trivial (fun hHeld => ?_)
      refine wpAnyH_take (i := 0) (v := ?_) rfl (by kernel_rfl) (by kernel_rfl) (by kernel_rfl) (fun _ _ _ h => h) (Or.inl ⟨by rfl, ?_⟩) trivial ?_
      rotate_left 1
      · intro w hSw; (try dsimp only at hSw); go_simp; try with_reducible rfl
      try simp only [Act.put, List.getElem_toArray, List.getElem_cons_zero, List.getElem_cons_succ, List.setIfInBounds_toArray, List.set_cons_zero, List.set_cons_succ]
      refine wpAnyH_take (i := 2) (v := ?_) rfl (by kernel_rfl) (by kernel_rfl) (by kernel_rfl) (fun _ _ _ h => h) (Or.inl ⟨by rfl, ?_⟩) trivial ?_
      rotate_left 1
      · intro w hSw; (try dsimp only at hSw); go_simp; try with_reducible rfl
      try simp only [Act.put, List.getElem_toArray, List.getElem_cons_zero, List.getElem_cons_succ, List.setIfInBounds_toArray, List.set_cons_zero, List.set_cons_succ]
      refine wpAnyH_take (i := 3) (v := ?_) rfl (by kernel_rfl) (by kernel_rfl) (by kernel_rfl) (fun _ _ _ h => h) (Or.inl ⟨by rfl, ?_⟩) trivial ?_
      rotate_left 1
      · intro w hSw; (try dsimp only at hSw); go_simp; try with_reducible rfl
      try simp only [Act.put, List.getElem_toArray, List.getElem_cons_zero, List.getElem_cons_succ, List.setIfInBounds_toArray, List.set_cons_zero, List.set_cons_succ]
      refine wpAnyH_ready (rs := [1, 4]) (by kernel_rfl) (by simp) ?_
      refine AllReadyH.cons rfl (fun K hK => ?_) ?_
      · go_simp
        refine hK.out _ _ trivial (fun hHeld => ?_)
        clear hK K hHeld
        try simp only [Act.put, List.getElem_toArray, List.getElem_cons_zero, List.getElem_cons_succ, List.setIfInBounds_toArray, List.set_cons_zero, List.set_cons_succ]
        refine wpAnyH_ready (rs := [4]) (by kernel_rfl) (by simp) ?_
        refine AllReadyH.cons rfl (fun K hK => ?_) ?_
        · go_simp
          refine (at_any (some ad) _ c l (14 + 4 * (j : Int)) (14 + 4 * j) (by omega) (by have := HN.out; have := HJ.out; omega) _ (Kd.C_below HC.out.1 (below_drew HR.out.2.2.2)) HC.out.2.1 HC.out.2.2).mono ?_
          rintro e wb ⟨rfl, ⟨mm, hwb⟩⟩
          have hbb : Below wr.heap.size wr wb := by rw [hwb]; exact pw_below_drewN (below_drew (Below.refl _ _)) _
          clear hwb
          have hmb := blk_below HR.out.2.1 hbb
          have hkb : wb.cell? ⟨g, 8, none⟩ = some v := (blk_cell hmb 8).trans rfl
          refine hK.out _ _ trivial (fun hHeld => ?_)
          clear hK K hHeld
          try simp only [Act.put, List.getElem_toArray, List.getElem_cons_zero, List.getElem_cons_succ, List.setIfInBounds_toArray, List.set_cons_zero, List.set_cons_succ]
          refine wpAnyH_ready (rs := [5]) (by kernel_rfl) (by simp) ?_
          refine AllReadyH.cons rfl (fun K hK => ?_) ?_
          · go_simp
            have hb4 := below_alloc (Below.refl wb.heap.size wb) (.cells #[.int .u32 (adAt l (14 + 4 * j))] 23)
            have hk4 : (wb.alloc (.cells #[.int .u32 (adAt l (14 + 4 * j))] 23)).cell? ⟨g, 8, none⟩ = some v := pw_cell_below hb4 hkb
            refine hK.out _ _ trivial (fun hHeld => ?_)
            clear hK K hHeld
            try simp only [Act.put, List.getElem_toArray, List.getElem_cons_zero, List.getElem_cons_succ, List.setIfInBounds_toArray, List.set_cons_zero, List.set_cons_succ]
            have hqx4 : g + 1 ≤ (wb.alloc (.cells #[.int .u32 (adAt l (14 + 4 * j))] 23)).heap.size := by have := blk_lt hmb; simp; omega
            have hm4 := blk_below hmb (below_alloc (Below.refl wb.heap.size wb) (.cells #[.int .u32 (adAt l (14 + 4 * j))] 23))
            have hz4 := blk_below (blk_below HR.out.2.2.1 hbb) (below_alloc (Below.refl wb.heap.size wb) (.cells #[.int .u32 (adAt l (14 + 4 * j))] 23))
            have hR4 : (Kd.int .u32).R 23 (wb.alloc (.cells #[.int .u32 (adAt l (14 + 4 * j))] 23)) (g + 1) (fun i => g + 1 ≤ i) v (adsAt l 14 j) := Kd.R_alloc (Kd.R_below HR.out.1 hbb) _
            have hC4 : Kd.C (Kd.int .u32) (wb.alloc (.cells #[.int .u32 (adAt l (14 + 4 * j))] 23)) (some ⟨wb.heap.size, 0, none⟩) 1 [(adAt l (14 + 4 * j))] := lit_C .u32 wb 23 [(adAt l (14 + 4 * j))] (by simp)
            have hB4 : Below w.heap.size w (wb.alloc (.cells #[.int .u32 (adAt l (14 + 4 * j))] 23)) := below_alloc (reach_to HR.out.2.2.2 HR.out.2.2.2.size hbb) _
            generalize wb.alloc (.cells #[.int .u32 (adAt l (14 + 4 * j))] 23) = WB at *
            refine wpAnyH_ready (rs := [6]) (by kernel_rfl) (by simp) ?_
            refine AllReadyH.cons rfl (fun K hK => ?_) ?_
            · refine app_row_ok (w0 := WB) (g + 1) (fun i => g + 1 ≤ i) (fun i hi => Nat.le_trans hqx4 hi) (by rfl) (.tmp 146) (.tmp 150) 54 23 4 rfl Tryd.underlying54 Tryd.infoAd (by decide) v (adsAt l 14 j) [(adAt l (14 + 4 * j))] (some ⟨wb.heap.size, 0, none⟩) 1 1 rfl rfl hR4 hC4 (Below.refl _ _) hqx4 (by rw [HRL.out]; omega) (fun v1 W1 hR1 hB1 => ?_)
              have hm1 := (hB1.block g (by omega)).trans hm4
              have hz1 := (hB1.block r (by have := HG.out; omega)).trans hz4
              have hBw1 : Below w.heap.size w W1 := hB4.trans ⟨hB1.os, hB1.tape, hB1.output, hB1.size, fun i hi => hB1.block i (by have := HG.out; omega)⟩
              obtain ⟨A1, c1, rfl⟩ := Kd.R_slice hR1
              skip
              generalize (adsAt l 14 j ++ [(adAt l (14 + 4 * j))]).length = N1 at *
              have hk5 := (blk_cell hm1 8).trans rfl
              have hf5 := blk_frozen hm1
              have HV := Aside0.mk (And.intro hR1 (And.intro hm1 (And.intro hz1 hBw1)))
              clear hR1 hm1 hz1 hB1 hR4 hC4 hm4 hz4 hB4 hBw1
              refine hK.out _ _ trivial (fun hHeld => ?_)
              clear hK K hHeld
              try simp only [Act.put, List.getElem_toArray, List.getElem_cons_zero, List.getElem_cons_succ, List.setIfInBounds_toArray, List.set_cons_zero, List.set_cons_succ]
              refine wpAnyH_take (i := 7) (v := ?_) rfl (by kernel_rfl) (by kernel_rfl) (by kernel_rfl) (fun _ _ _ h => h) (Or.inl ⟨by rfl, ?_⟩) trivial ?_
              rotate_left 1
              · intro w hSw; (try dsimp only at hSw); go_simp; try with_reducible rfl
              try simp only [Act.put, List.getElem_toArray, List.getElem_cons_zero, List.getElem_cons_succ, List.setIfInBounds_toArray, List.set_cons_zero, List.set_cons_succ]
              refine wpAnyH_ready (rs := [8]) (by kernel_rfl) (by simp) ?_
              refine AllReadyH.cons rfl (fun K hK => ?_) ?_
              · go_simp
                refine hK.out _ _ trivial (fun hHeld => ?_)
                clear hK K hHeld
                try simp only [Act.put, List.getElem_toArray, List.getElem_cons_zero, List.getElem_cons_succ, List.setIfInBounds_toArray, List.set_cons_zero, List.set_cons_succ]
                refine wpAnyH_done (by kernel_rfl) ?_ _
                obtain ⟨hR1, hm1, hz1, hBw1⟩ := HV.out
                have hR2 := Kd.R_far hR1 (p := ⟨g, 8, none⟩) (fun k hk => show k ≠ g by omega) (.slice A1 N1 c1)
                have hm2 : (W1.setCell ⟨g, 8, none⟩ (.slice A1 N1 c1)).heap[g]? = some (.cells #[.int .i64 4, .int .u32 (adAt l 4), .int .u32 0, .int .u32 0, .int .u32 (adAt l 8), .int .i64 0, .int .i64 0, .bool (ob == 1), .slice A1 N1 c1] 56 (0, 0)) := (blk_set hm1 8 _).trans rfl
                have hz2 := blk_far hz1 (p := ⟨g, 8, none⟩) (show r ≠ g by have := HG.out; omega) (.slice A1 N1 c1)
                have hB2 : Below w.heap.size w (W1.setCell ⟨g, 8, none⟩ (.slice A1 N1 c1)) := Below.setCell hBw1 (show w.heap.size ≤ g by have := HG.out; omega) _
                clear hR1 hm1 hz1 hBw1 hk5 hf5 HV
                generalize hWX : W1.setCell ⟨g, 8, none⟩ (.slice A1 N1 c1) = WX at *
                have HV := Aside0.mk (And.intro hR2 (And.intro hm2 (And.intro hz2 hB2)))
                clear hR2 hm2 hz2 hB2 hWX
                go_wp2
                go_roundg (gk - 1)
                case measure => omega
                case rel => exact ⟨j + 1, _, by omega, by go_num, ⟨by rw [HLX.out]; exact HV.out⟩⟩
              · exact AllReadyH.nil
            · exact AllReadyH.nil
          exact AllReadyH.nil
        exact AllReadyH.nil
      refine AllReadyH.cons rfl (fun K hK => ?_) ?_
      · go_simp
        refine (at_any (some ad) _ c l (14 + 4 * (j : Int)) (14 + 4 * j) (by omega) (by have := HN.out; have := HJ.out; omega) _ (Kd.C_below HC.out.1 (below_drew HR.out.2.2.2)) HC.out.2.1 HC.out.2.2).mono ?_
        rintro e wb ⟨rfl, ⟨mm, hwb⟩⟩
        have hbb : Below wr.heap.size wr wb := by rw [hwb]; exact pw_below_drewN (below_drew (Below.refl _ _)) _
        clear hwb
        have hmb := blk_below HR.out.2.1 hbb
        have hkb : wb.cell? ⟨g, 8, none⟩ = some v := (blk_cell hmb 8).trans rfl
        refine hK.out _ _ trivial (fun hHeld => ?_)
        clear hK K hHeld
        try simp only [Act.put, List.getElem_toArray, List.getElem_cons_zero, List.getElem_cons_succ, List.setIfInBounds_toArray, List.set_cons_zero, List.set_cons_succ]
        refine wpAnyH_ready (rs := [1, 5]) (by kernel_rfl) (by simp) ?_
        refine AllReadyH.cons rfl (fun K hK => ?_) ?_
        · go_simp
          refine hK.out _ _ trivial (fun hHeld => ?_)
          clear hK K hHeld
          try simp only [Act.put, List.getElem_toArray, List.getElem_cons_zero, List.getElem_cons_succ, List.setIfInBounds_toArray, List.set_cons_zero, List.set_cons_succ]
          refine wpAnyH_ready (rs := [5]) (by kernel_rfl) (by simp) ?_
          refine AllReadyH.cons rfl (fun K hK => ?_) ?_
          · go_simp
            have hb4 := below_alloc (Below.refl wb.heap.size wb) (.cells #[.int .u32 (adAt l (14 + 4 * j))] 23)
            have hk4 : (wb.alloc (.cells #[.int .u32 (adAt l (14 + 4 * j))] 23)).cell? ⟨g, 8, none⟩ = some v := pw_cell_below hb4 hkb
            refine hK.out _ _ trivial (fun hHeld => ?_)
            clear hK K hHeld
            try simp only [Act.put, List.getElem_toArray, List.getElem_cons_zero, List.getElem_cons_succ, List.setIfInBounds_toArray, List.set_cons_zero, List.set_cons_succ]
            have hqx4 : g + 1 ≤ (wb.alloc (.cells #[.int .u32 (adAt l (14 + 4 * j))] 23)).heap.size := by have := blk_lt hmb; simp; omega
            have hm4 := blk_below hmb (below_alloc (Below.refl wb.heap.size wb) (.cells #[.int .u32 (adAt l (14 + 4 * j))] 23))
            have hz4 := blk_below (blk_below HR.out.2.2.1 hbb) (below_alloc (Below.refl wb.heap.size wb) (.cells #[.int .u32 (adAt l (14 + 4 * j))] 23))
            have hR4 : (Kd.int .u32).R 23 (wb.alloc (.cells #[.int .u32 (adAt l (14 + 4 * j))] 23)) (g + 1) (fun i => g + 1 ≤ i) v (adsAt l 14 j) := Kd.R_alloc (Kd.R_below HR.out.1 hbb) _
            have hC4 : Kd.C (Kd.int .u32) (wb.alloc (.cells #[.int .u32 (adAt l (14 + 4 * j))] 23)) (some ⟨wb.heap.size, 0, none⟩) 1 [(adAt l (14 + 4 * j))] := lit_C .u32 wb 23 [(adAt l (14 + 4 * j))] (by simp)
            have hB4 : Below w.heap.size w (wb.alloc (.cells #[.int .u32 (adAt l (14 + 4 * j))] 23)) := below_alloc (reach_to HR.out.2.2.2 HR.out.2.2.2.size hbb) _
            generalize wb.alloc (.cells #[.int .u32 (adAt l (14 + 4 * j))] 23) = WB at *
            refine wpAnyH_ready (rs := [6]) (by kernel_rfl) (by simp) ?_
            refine AllReadyH.cons rfl (fun K hK => ?_) ?_
            · refine app_row_ok (w0 := WB) (g + 1) (fun i => g + 1 ≤ i) (fun i hi => Nat.le_trans hqx4 hi) (by rfl) (.tmp 146) (.tmp 150) 54 23 4 rfl Tryd.underlying54 Tryd.infoAd (by decide) v (adsAt l 14 j) [(adAt l (14 + 4 * j))] (some ⟨wb.heap.size, 0, none⟩) 1 1 rfl rfl hR4 hC4 (Below.refl _ _) hqx4 (by rw [HRL.out]; omega) (fun v1 W1 hR1 hB1 => ?_)
              have hm1 := (hB1.block g (by omega)).trans hm4
              have hz1 := (hB1.block r (by have := HG.out; omega)).trans hz4
              have hBw1 : Below w.heap.size w W1 := hB4.trans ⟨hB1.os, hB1.tape, hB1.output, hB1.size, fun i hi => hB1.block i (by have := HG.out; omega)⟩
              obtain ⟨A1, c1, rfl⟩ := Kd.R_slice hR1
              skip
              generalize (adsAt l 14 j ++ [(adAt l (14 + 4 * j))]).length = N1 at *
              have hk5 := (blk_cell hm1 8).trans rfl
              have hf5 := blk_frozen hm1
              have HV := Aside0.mk (And.intro hR1 (And.intro hm1 (And.intro hz1 hBw1)))
              clear hR1 hm1 hz1 hB1 hR4 hC4 hm4 hz4 hB4 hBw1
              refine hK.out _ _ trivial (fun hHeld => ?_)
              clear hK K hHeld
              try simp only [Act.put, List.getElem_toArray, List.getElem_cons_zero, List.getElem_cons_succ, List.setIfInBounds_toArray, List.set_cons_zero, List.set_cons_succ]
              refine wpAnyH_take (i := 7) (v := ?_) rfl (by kernel_rfl) (by kernel_rfl) (by kernel_rfl) (fun _ _ _ h => h) (Or.inl ⟨by rfl, ?_⟩) trivial ?_
              rotate_left 1
              · intro w hSw; (try dsimp only at hSw); go_simp; try with_reducible rfl
              try simp only [Act.put, List.getElem_toArray, List.getElem_cons_zero, List.getElem_cons_succ, List.setIfInBounds_toArray, List.set_cons_zero, List.set_cons_succ]
              refine wpAnyH_ready (rs := [8]) (by kernel_rfl) (by simp) ?_
              refine AllReadyH.cons rfl (fun K hK => ?_) ?_
              · go_simp
                refine hK.out _ _ trivial (fun hHeld => ?_)
                clear hK K hHeld
                try simp only [Act.put, List.getElem_toArray, List.getElem_cons_zero, List.getElem_cons_succ, List.setIfInBounds_toArray, List.set_cons_zero, List.set_cons_succ]
                refine wpAnyH_done (by kernel_rfl) ?_ _
                obtain ⟨hR1, hm1, hz1, hBw1⟩ := HV.out
                have hR2 := Kd.R_far hR1 (p := ⟨g, 8, none⟩) (fun k hk => show k ≠ g by omega) (.slice A1 N1 c1)
                have hm2 : (W1.setCell ⟨g, 8, none⟩ (.slice A1 N1 c1)).heap[g]? = some (.cells #[.int .i64 4, .int .u32 (adAt l 4), .int .u32 0, .int .u32 0, .int .u32 (adAt l 8), .int .i64 0, .int .i64 0, .bool (ob == 1), .slice A1 N1 c1] 56 (0, 0)) := (blk_set hm1 8 _).trans rfl
                have hz2 := blk_far hz1 (p := ⟨g, 8, none⟩) (show r ≠ g by have := HG.out; omega) (.slice A1 N1 c1)
                have hB2 : Below w.heap.size w (W1.setCell ⟨g, 8, none⟩ (.slice A1 N1 c1)) := Below.setCell hBw1 (show w.heap.size ≤ g by have := HG.out; omega) _
                clear hR1 hm1 hz1 hBw1 hk5 hf5 HV
                generalize hWX : W1.setCell ⟨g, 8, none⟩ (.slice A1 N1 c1) = WX at *
                have HV := Aside0.mk (And.intro hR2 (And.intro hm2 (And.intro hz2 hB2)))
                clear hR2 hm2 hz2 hB2 hWX
                go_wp2
                go_roundg (gk - 1)
                case measure => omega
                case rel => exact ⟨j + 1, _, by omega, by go_num, ⟨by rw [HLX.out]; exact HV.out⟩⟩
              · exact AllReadyH.nil
            · exact AllReadyH.nil
          exact AllReadyH.nil
        refine AllReadyH.cons rfl (fun K hK => ?_) ?_
        · go_simp
          have hb4 := below_alloc (Below.refl wb.heap.size wb) (.cells #[.int .u32 (adAt l (14 + 4 * j))] 23)
          have hk4 : (wb.alloc (.cells #[.int .u32 (adAt l (14 + 4 * j))] 23)).cell? ⟨g, 8, none⟩ = some v := pw_cell_below hb4 hkb
          refine hK.out _ _ trivial (fun hHeld => ?_)
          clear hK K hHeld
          try simp only [Act.put, List.getElem_toArray, List.getElem_cons_zero, List.getElem_cons_succ, List.setIfInBounds_toArray, List.set_cons_zero, List.set_cons_succ]
          refine wpAnyH_ready (rs := [1]) (by kernel_rfl) (by simp) ?_
          refine AllReadyH.cons rfl (fun K hK => ?_) ?_
          · go_simp
            refine hK.out _ _ trivial (fun hHeld => ?_)
            clear hK K hHeld
            try simp only [Act.put, List.getElem_toArray, List.getElem_cons_zero, List.getElem_cons_succ, List.setIfInBounds_toArray, List.set_cons_zero, List.set_cons_succ]
            have hqx4 : g + 1 ≤ (wb.alloc (.cells #[.int .u32 (adAt l (14 + 4 * j))] 23)).heap.size := by have := blk_lt hmb; simp; omega
            have hm4 := blk_below hmb (below_alloc (Below.refl wb.heap.size wb) (.cells #[.int .u32 (adAt l (14 + 4 * j))] 23))
            have hz4 := blk_below (blk_below HR.out.2.2.1 hbb) (below_alloc (Below.refl wb.heap.size wb) (.cells #[.int .u32 (adAt l (14 + 4 * j))] 23))
            have hR4 : (Kd.int .u32).R 23 (wb.alloc (.cells #[.int .u32 (adAt l (14 + 4 * j))] 23)) (g + 1) (fun i => g + 1 ≤ i) v (adsAt l 14 j) := Kd.R_alloc (Kd.R_below HR.out.1 hbb) _
            have hC4 : Kd.C (Kd.int .u32) (wb.alloc (.cells #[.int .u32 (adAt l (14 + 4 * j))] 23)) (some ⟨wb.heap.size, 0, none⟩) 1 [(adAt l (14 + 4 * j))] := lit_C .u32 wb 23 [(adAt l (14 + 4 * j))] (by simp)
            have hB4 : Below w.heap.size w (wb.alloc (.cells #[.int .u32 (adAt l (14 + 4 * j))] 23)) := below_alloc (reach_to HR.out.2.2.2 HR.out.2.2.2.size hbb) _
            generalize wb.alloc (.cells #[.int .u32 (adAt l (14 + 4 * j))] 23) = WB at *
            refine wpAnyH_ready (rs := [6]) (by kernel_rfl) (by simp) ?_
            refine AllReadyH.cons rfl (fun K hK => ?_) ?_
            · refine app_row_ok (w0 := WB) (g + 1) (fun i => g + 1 ≤ i) (fun i hi => Nat.le_trans hqx4 hi) (by rfl) (.tmp 146) (.tmp 150) 54 23 4 rfl Tryd.underlying54 Tryd.infoAd (by decide) v (adsAt l 14 j) [(adAt l (14 + 4 * j))] (some ⟨wb.heap.size, 0, none⟩) 1 1 rfl rfl hR4 hC4 (Below.refl _ _) hqx4 (by rw [HRL.out]; omega) (fun v1 W1 hR1 hB1 => ?_)
              have hm1 := (hB1.block g (by omega)).trans hm4
              have hz1 := (hB1.block r (by have := HG.out; omega)).trans hz4
              have hBw1 : Below w.heap.size w W1 := hB4.trans ⟨hB1.os, hB1.tape, hB1.output, hB1.size, fun i hi => hB1.block i (by have := HG.out; omega)⟩
              obtain ⟨A1, c1, rfl⟩ := Kd.R_slice hR1
              skip
              generalize (adsAt l 14 j ++ [(adAt l (14 + 4 * j))]).length = N1 at *
              have hk5 := (blk_cell hm1 8).trans rfl
              have hf5 := blk_frozen hm1
              have HV := Aside0.mk (And.intro hR1 (And.intro hm1 (And.intro hz1 hBw1)))
              clear hR1 hm1 hz1 hB1 hR4 hC4 hm4 hz4 hB4 hBw1
              refine hK.out _ _ trivial (fun hHeld => ?_)
              clear hK K hHeld
              try simp only [Act.put, List.getElem_toArray, List.getElem_cons_zero, List.getElem_cons_succ, List.setIfInBounds_toArray, List.set_cons_zero, List.set_cons_succ]
              refine wpAnyH_take (i := 7) (v := ?_) rfl (by kernel_rfl) (by kernel_rfl) (by kernel_rfl) (fun _ _ _ h => h) (Or.inl ⟨by rfl, ?_⟩) trivial ?_
              rotate_left 1
              · intro w hSw; (try dsimp only at hSw); go_simp; try with_reducible rfl
              try simp only [Act.put, List.getElem_toArray, List.getElem_cons_zero, List.getElem_cons_succ, List.setIfInBounds_toArray, List.set_cons_zero, List.set_cons_succ]
              refine wpAnyH_ready (rs := [8]) (by kernel_rfl) (by simp) ?_
              refine AllReadyH.cons rfl (fun K hK => ?_) ?_
              · go_simp
                refine hK.out _ _ trivial (fun hHeld => ?_)
                clear hK K hHeld
                try simp only [Act.put, List.getElem_toArray, List.getElem_cons_zero, List.getElem_cons_succ, List.setIfInBounds_toArray, List.set_cons_zero, List.set_cons_succ]
                refine wpAnyH_done (by kernel_rfl) ?_ _
                obtain ⟨hR1, hm1, hz1, hBw1⟩ := HV.out
                have hR2 := Kd.R_far hR1 (p := ⟨g, 8, none⟩) (fun k hk => show k ≠ g by omega) (.slice A1 N1 c1)
                have hm2 : (W1.setCell ⟨g, 8, none⟩ (.slice A1 N1 c1)).heap[g]? = some (.cells #[.int .i64 4, .int .u32 (adAt l 4), .int .u32 0, .int .u32 0, .int .u32 (adAt l 8), .int .i64 0, .int .i64 0, .bool (ob == 1), .slice A1 N1 c1] 56 (0, 0)) := (blk_set hm1 8 _).trans rfl
                have hz2 := blk_far hz1 (p := ⟨g, 8, none⟩) (show r ≠ g by have := HG.out; omega) (.slice A1 N1 c1)
                have hB2 : Below w.heap.size w (W1.setCell ⟨g, 8, none⟩ (.slice A1 N1 c1)) := Below.setCell hBw1 (show w.heap.size ≤ g by have := HG.out; omega) _
                clear hR1 hm1 hz1 hBw1 hk5 hf5 HV
                generalize hWX : W1.setCell ⟨g, 8, none⟩ (.slice A1 N1 c1) = WX at *
                have HV := Aside0.mk (And.intro hR2 (And.intro hm2 (And.intro hz2 hB2)))
                clear hR2 hm2 hz2 hB2 hWX
                go_wp2
                go_roundg (gk - 1)
                case measure => omega
                case rel => exact ⟨j + 1, _, by omega, by go_num, ⟨by rw [HLX.out]; exact HV.out⟩⟩
              · exact AllReadyH.nil
            · exact AllReadyH.nil
          exact AllReadyH.nil
        exact AllReadyH.nil
      exact AllReadyH.nil
    · obtain rfl : j = k := by omega
      have hd3 : decide (14 + 4 * (j : Int) < 14 + 4 * (j : Int)) = false := decide_eq_false (by omega)
      obtain ⟨A9, c9, rfl, hle9, hC9⟩ := Kd.R_reads HR.out.1
      obtain ⟨hR9, hg9, hz9, hB9⟩ := HR.out
      generalize hN9 : (adsAt l 14 j).length = n9 at *
      have p0 := (blk_cell hg9 0).trans rfl
      have p1 := (blk_cell hg9 1).trans rfl
      have p2 := (blk_cell hg9 2).trans rfl
      have p3 := (blk_cell hg9 3).trans rfl
      have p4 := (blk_cell hg9 4).trans rfl
      have p5 := (blk_cell hg9 5).trans rfl
      have p6 := (blk_cell hg9 6).trans rfl
      have p7 := (blk_cell hg9 7).trans rfl
      have p8 := (blk_cell hg9 8).trans rfl
      have hltg := blk_lt hg9
      have H9 := Aside0.mk (And.intro hR9 (And.intro hg9 (And.intro hz9 (And.intro hB9 hC9))))
      clear hR9 hg9 hz9 hB9 hC9 hle9 hN9 HR
      go_wp2_with fail
      clear p0 p1 p2 p3 p4 p5 p6 p7 p8
      refine (rvalid_any ⟨4, (adAt l 4), 0, 0, (adAt l 8), 0, 0, (ob == 1), adsAt l 14 j⟩ A9 n9 c9 _ HZ.out.1 H9.out.2.2.2.2).mono ?_
      rintro e w3 ⟨rfl, hb3⟩
      rw [← HZ.out.2]
      have hR3 := Kd.R_below H9.out.1 hb3
      have hz3 := blk_below H9.out.2.2.1 hb3
      have hg3 := blk_below H9.out.2.1 hb3
      have hB3 := reach_to H9.out.2.2.2.1 H9.out.2.2.2.1.size hb3
      have hlt := blk_lt hz3
      have hltg := blk_lt hg3
      have z0 := (blk_cell hz3 0).trans rfl
      have g0 := (blk_cell hg3 0).trans rfl
      have z1 := (blk_cell hz3 1).trans rfl
      have g1 := (blk_cell hg3 1).trans rfl
      have z2 := (blk_cell hz3 2).trans rfl
      have g2 := (blk_cell hg3 2).trans rfl
      have z3 := (blk_cell hz3 3).trans rfl
      have g3 := (blk_cell hg3 3).trans rfl
      have z4 := (blk_cell hz3 4).trans rfl
      have g4 := (blk_cell hg3 4).trans rfl
      have z5 := (blk_cell hz3 5).trans rfl
      have g5 := (blk_cell hg3 5).trans rfl
      have z6 := (blk_cell hz3 6).trans rfl
      have g6 := (blk_cell hg3 6).trans rfl
      have z7 := (blk_cell hz3 7).trans rfl
      have g7 := (blk_cell hg3 7).trans rfl
      have z8 := (blk_cell hz3 8).trans rfl
      have g8 := (blk_cell hg3 8).trans rfl
      have fz := blk_frozen hz3
      have HF := Aside0.mk (And.intro hz3 (And.intro hB3 hR3))
      clear hb3 hz3 hg3 hB3 hR3 H9
      by_cases hz0 : z = 0
      · subst hz0
        go_wp2_with fail
        refine bodyPost_ret (results_cell_row2 rfl _ _ r 56 #[.int .i64 4, .int .u32 (adAt l 4), .int .u32 0, .int .u32 0, .int .u32 (adAt l 8), .int .i64 0, .int .i64 0, .bool (ob == 1), .slice A9 n9 c9] (0, 0) _ rfl (blk_put9 HF.out.1) hu rfl (by kernel_rfl)) rfl ?_
        refine ⟨_, by first | rfl | (rw [if_pos rfl]; rfl), ?_, ?_⟩
        · obtain ⟨hrr, hgg⟩ := HG.out
          have key : ∀ (W : World), (Kd.int .u32).R 23 W (g + 1) (fun i => g + 1 ≤ i) (.slice A9 n9 c9) (adsAt l 14 j) → ∀ (i : Nat) (u : Value), (Kd.int .u32).R 23 (W.setCell ⟨r, i, none⟩ u) (g + 1) (fun i => g + 1 ≤ i) (.slice A9 n9 c9) (adsAt l 14 j) := fun W h i u => Kd.R_far h (p := ⟨r, i, none⟩) (fun k hk => show k ≠ r by omega) u
          first | exact Kd.R_mono (Kd.R_lower (key _ (key _ (key _ (key _ (key _ (key _ (key _ (key _ (key _ HF.out.2.2 _ _) _ _) _ _) _ _) _ _) _ _) _ _) _ _) _ _) (by omega)) (fun _ _ => trivial) | (rw [if_pos rfl]; exact Kd.R_mono (Kd.R_lower (key _ (key _ (key _ (key _ (key _ (key _ (key _ (key _ (key _ HF.out.2.2 _ _) _ _) _ _) _ _) _ _) _ _) _ _) _ _) _ _) (by omega)) (fun _ _ => trivial))
        · iterate 9 (refine Below.setCell ?_ (Nat.le_of_eq HG.out.1.symm) _)
          exact HF.out.2.1
      · have HZ0 := Aside0.mk hz0
        have hzb : (z != 0) = true := bne_iff_ne.2 hz0
        have hzd : decide (z = 0) = false := decide_eq_false hz0
        have hze : (z == 0) = false := beq_eq_false_iff_ne.2 hz0
        go_wp2_with fail
        refine bodyPost_ret (results_cell_row2 rfl _ _ r 56 #[.int .i64 0, .int .u32 0, .int .u32 0, .int .u32 0, .int .u32 0, .int .i64 0, .int .i64 0, .bool false, .slice none 0 0] (0, 0) _ rfl (blk_put9 HF.out.1) hu rfl (by kernel_rfl)) rfl ?_
        refine ⟨.slice none 0 0, by first | rfl | (rw [if_neg HZ0.out]; rfl), ?_, ?_⟩
        · first | exact Kd.R_nil _ _ _ _ _ | (rw [if_neg HZ0.out]; exact Kd.R_nil _ _ _ _ _)
        · iterate 9 (refine Below.setCell ?_ (Nat.le_of_eq HG.out.1.symm) _)
          exact HF.out.2.1
end Go.Proofs.YtbgbplbkombfjaaDoor
namespace Go.Proofs.YtbgbplbkombfjaaDoor
open Go.RowKit Go.Proofs.YtbgbplbkombfjaaDoorW.PrintWords SumPlain
set_option linter.unusedVariables false
set_option linter.unusedSimpArgs false
attribute [local go_sem] setCell_drewN alloc_drewN
set_option maxHeartbeats 4000000 in
set_option maxRecDepth 100000 in
theorem rread_end5 (A : Option Addr) (n c : Nat) (l : List Int) (w : World) (hr : Kd.C (Kd.int .u8) w A n l) (hby : Byt l) (hl : l.length ≤ 1000000) (h4 : 4 ≤ n) (hz : ofL l = 0) (h1 : l.getD 1 0 = 0) (h0 : l.getD 0 0 = 37) (hs : n < 12) :
    Calls Tryd.prog 35 #[.slice A n c] w fun e w' => ∃ A1 n1 c1, e = .returned (.tuple #[.agg (zMsg.cells (.slice A1 n1 c1)), .int .i64 101]) ∧ Kd.C (Kd.int .u32) w' A1 n1 zMsg.l ∧ Below w.heap.size w w' := by
  have hu := Tryd.underlying56
  have hu3 := Tryd.underlying53
  have hb := below_alloc (Below.refl w.heap.size w) (.cells #[.int .i64 0, .int .u32 0, .int .u32 0, .int .u32 0, .int .u32 0, .int .i64 0, .int .i64 0, .bool false, .slice none 0 0] 56)
  have HR := Aside0.mk (And.intro (Kd.C_below hr hb) (And.intro hby hl))
  have hmx := Kd.C_max hr
  obtain ⟨ad, b0, rfl, _, _⟩ := at_nat hr 0 (by omega)
  have c1 := pw_cell_below hb (cells_of hr 1 (by omega) (by omega))
  have c0 := pw_cell_below hb (cell0_of hr (by omega))
  rw [h1] at c1
  rw [h0] at c0
  have hzt : (ofL l != 0) = false := bne_eq_false_iff_eq.2 hz
  clear hr hb hz hby hl h1 h0
  go_enter Tryd.func35, Tryd.ntmps35
  go_wp2_with fail
  refine (refsum_any (some ad) _ c l _ HR.out.1 HR.out.2.1 HR.out.2.2).mono ?_
  rintro e w1 ⟨rfl, rfl⟩
  go_wp2_with fail
  refine (rsize_5 _).mono ?_
  rintro e w1 ⟨rfl, rfl⟩
  go_wp2
  all_goals go_returns
  all_goals exact ⟨none, 0, 0, rfl, nil_C _, by repeat' (first | exact Below.refl _ _ | exact Nat.le_refl _ | (refine below_drew ?_) | (refine pw_below_drewN ?_ _) | (refine below_alloc ?_ _) | (refine Below.setCell ?_ ?_ _) | (simp; done) | omega)⟩
set_option maxHeartbeats 4000000 in
set_option maxRecDepth 100000 in
theorem rread_long5 (A : Option Addr) (n c : Nat) (l : List Int) (w : World) (hr : Kd.C (Kd.int .u8) w A n l) (hby : Byt l) (hl : l.length ≤ 1000000) (h4 : 4 ≤ n) (hz : ofL l = 0) (h1 : l.getD 1 0 = 0) (h0 : l.getD 0 0 = 37) (hs : 12 < n) :
    Calls Tryd.prog 35 #[.slice A n c] w fun e w' => ∃ A1 n1 c1, e = .returned (.tuple #[.agg (zMsg.cells (.slice A1 n1 c1)), .int .i64 102]) ∧ Kd.C (Kd.int .u32) w' A1 n1 zMsg.l ∧ Below w.heap.size w w' := by
  have hu := Tryd.underlying56
  have hu3 := Tryd.underlying53
  have hb := below_alloc (Below.refl w.heap.size w) (.cells #[.int .i64 0, .int .u32 0, .int .u32 0, .int .u32 0, .int .u32 0, .int .i64 0, .int .i64 0, .bool false, .slice none 0 0] 56)
  have HR := Aside0.mk (And.intro (Kd.C_below hr hb) (And.intro hby hl))
  have hmx := Kd.C_max hr
  obtain ⟨ad, b0, rfl, _, _⟩ := at_nat hr 0 (by omega)
  have c1 := pw_cell_below hb (cells_of hr 1 (by omega) (by omega))
  have c0 := pw_cell_below hb (cell0_of hr (by omega))
  rw [h1] at c1
  rw [h0] at c0
  have hzt : (ofL l != 0) = false := bne_eq_false_iff_eq.2 hz
  clear hr hb hz hby hl h1 h0
  have hd : decide ((12 : Int) < (n : Int)) = true := decide_eq_true (by omega)
  go_enter Tryd.func35, Tryd.ntmps35
  go_wp2_with fail
  refine (refsum_any (some ad) _ c l _ HR.out.1 HR.out.2.1 HR.out.2.2).mono ?_
  rintro e w1 ⟨rfl, rfl⟩
  go_wp2_with fail
  refine (rsize_5 _).mono ?_
  rintro e w1 ⟨rfl, rfl⟩
  go_wp2
  all_goals go_returns
  all_goals exact ⟨none, 0, 0, rfl, nil_C _, by repeat' (first | exact Below.refl _ _ | exact Nat.le_refl _ | (refine below_drew ?_) | (refine pw_below_drewN ?_ _) | (refine below_alloc ?_ _) | (refine Below.setCell ?_ ?_ _) | (simp; done) | omega)⟩
set_option maxHeartbeats 4000000 in
set_option maxRecDepth 100000 in
theorem rread_at5 (A : Option Addr) (n c : Nat) (l : List Int) (w : World) (hr : Kd.C (Kd.int .u8) w A n l) (hby : Byt l) (hl : l.length ≤ 1000000) (h4 : 4 ≤ n) (hz : ofL l = 0) (h1 : l.getD 1 0 = 0) (h0 : l.getD 0 0 = 37) (hs : n = 12) :
    Calls Tryd.prog 35 #[.slice A n c] w fun e w' => e = .returned (.tuple #[.agg ((if codeOf (validL (posM 5 l)) = 0 then posM 5 l else zMsg).cells (.slice none 0 0)), .int .i64 (codeOf (validL (posM 5 l)))]) ∧ Below w.heap.size w w' := by
  have hu := Tryd.underlying56
  have hu3 := Tryd.underlying53
  have hb := below_alloc (Below.refl w.heap.size w) (.cells #[.int .i64 0, .int .u32 0, .int .u32 0, .int .u32 0, .int .u32 0, .int .i64 0, .int .i64 0, .bool false, .slice none 0 0] 56)
  have HR := Aside0.mk (And.intro (Kd.C_below hr hb) (And.intro hby hl))
  have hmx := Kd.C_max hr
  obtain ⟨ad, b0, rfl, _, _⟩ := at_nat hr 0 (by omega)
  have c1 := pw_cell_below hb (cells_of hr 1 (by omega) (by omega))
  have c0 := pw_cell_below hb (cell0_of hr (by omega))
  rw [h1] at c1
  rw [h0] at c0
  have hzt : (ofL l != 0) = false := bne_eq_false_iff_eq.2 hz
  have HC := Aside0.mk (And.intro hr (And.intro hby hl))
  have hwf := posM_wf 5 l hby
  have HM : posM 5 l = ⟨5, (adAt l 4), 0, 0, (adAt l 8), 0, 0, false, []⟩ := by simp [posM]
  rw [HM] at hwf ⊢
  obtain ⟨z, hzz⟩ : ∃ z, z = codeOf (validL ⟨5, (adAt l 4), 0, 0, (adAt l 8), 0, 0, false, []⟩) := ⟨_, rfl⟩
  rw [← hzz]
  have HZ := Aside0.mk (And.intro hwf hzz)
  subst hs
  clear hr hb hz hby hl h1 h0 hwf hzz HM
  go_enter Tryd.func35, Tryd.ntmps35
  go_wp2_with fail
  refine (refsum_any (some ad) _ c l _ HR.out.1 HR.out.2.1 HR.out.2.2).mono ?_
  rintro e w1 ⟨rfl, rfl⟩
  go_wp2_with fail
  refine (rsize_5 _).mono ?_
  rintro e w1 ⟨rfl, rfl⟩
  go_wp2_with fail
  clear c0 c1 HR
  refine (at_any (some ad) _ c l 4 4 rfl (by omega) _ (Kd.C_below HC.out.1 (by repeat' (first | exact Below.refl _ _ | (refine below_drew ?_) | (refine pw_below_drewN ?_ _) | (refine below_alloc ?_ _)))) HC.out.2.1 HC.out.2.2).mono ?_
  rintro e wq ⟨rfl, ⟨m4, rfl⟩⟩
  go_wp2_with fail
  refine (at_any (some ad) _ c l 8 8 rfl (by omega) _ (Kd.C_below HC.out.1 (by repeat' (first | exact Below.refl _ _ | (refine below_drew ?_) | (refine pw_below_drewN ?_ _) | (refine below_alloc ?_ _)))) HC.out.2.1 HC.out.2.2).mono ?_
  rintro e wq ⟨rfl, ⟨m8, rfl⟩⟩
  go_wp2_with fail
  refine (rvalid_any ⟨5, (adAt l 4), 0, 0, (adAt l 8), 0, 0, false, []⟩ none 0 0 _ HZ.out.1 (nil_C _)).mono ?_
  rintro e w3 ⟨rfl, hb3⟩
  rw [← HZ.out.2]
  obtain ⟨W2, hW2⟩ : ∃ W2, W2 = (w.alloc (.cells #[.int .i64 0, .int .u32 0, .int .u32 0, .int .u32 0, .int .u32 0, .int .i64 0, .int .i64 0, .bool false, .slice none 0 0] 56)).alloc (.cells #[.int .i64 5, .int .u32 (adAt l 4), .int .u32 0, .int .u32 0, .int .u32 (adAt l 8), .int .i64 0, .int .i64 0, .bool false, .slice none 0 0] 56) := ⟨_, rfl⟩
  have hz2 : W2.heap[w.heap.size]? = some (.cells #[.int .i64 0, .int .u32 0, .int .u32 0, .int .u32 0, .int .u32 0, .int .i64 0, .int .i64 0, .bool false, .slice none 0 0] 56 (0, 0)) := by rw [hW2]; exact blk_alloc (heap_alloc_new w _) _
  have hg2 : W2.heap[w.heap.size + 1]? = some (.cells #[.int .i64 5, .int .u32 (adAt l 4), .int .u32 0, .int .u32 0, .int .u32 (adAt l 8), .int .i64 0, .int .i64 0, .bool false, .slice none 0 0] 56 (0, 0)) := by rw [hW2]; exact new_at _ _ _ (by simp)
  have hbW : Below w.heap.size w W2 := by rw [hW2]; exact below_alloc (below_alloc (Below.refl _ _) _) _
  rw [← hW2] at hb3
  have hb3' : Below W2.heap.size W2 w3 := by
    refine below_then ?_ ?_ hb3
    · repeat' (first | exact Below.refl _ _ | (refine below_drew ?_) | (refine pw_below_drewN ?_ _))
    · exact Nat.le_refl _
  have hz3 := blk_below hz2 hb3'
  have hg3 := blk_below hg2 hb3'
  have hB3 := reach_to hbW hbW.size hb3'
  obtain ⟨r, hrr⟩ : ∃ r, r = w.heap.size := ⟨_, rfl⟩
  obtain ⟨g, hgg⟩ : ∃ g, g = w.heap.size + 1 := ⟨_, rfl⟩
  rw [← hrr] at hz3
  rw [← hgg] at hg3 ⊢
  rw [← hrr]
  have hlt := blk_lt hz3
  have hltg := blk_lt hg3
  have z0 := (blk_cell hz3 0).trans rfl
  have g0 := (blk_cell hg3 0).trans rfl
  have z1 := (blk_cell hz3 1).trans rfl
  have g1 := (blk_cell hg3 1).trans rfl
  have z2 := (blk_cell hz3 2).trans rfl
  have g2 := (blk_cell hg3 2).trans rfl
  have z3 := (blk_cell hz3 3).trans rfl
  have g3 := (blk_cell hg3 3).trans rfl
  have z4 := (blk_cell hz3 4).trans rfl
  have g4 := (blk_cell hg3 4).trans rfl
  have z5 := (blk_cell hz3 5).trans rfl
  have g5 := (blk_cell hg3 5).trans rfl
  have z6 := (blk_cell hz3 6).trans rfl
  have g6 := (blk_cell hg3 6).trans rfl
  have z7 := (blk_cell hz3 7).trans rfl
  have g7 := (blk_cell hg3 7).trans rfl
  have z8 := (blk_cell hz3 8).trans rfl
  have g8 := (blk_cell hg3 8).trans rfl
  have fz := blk_frozen hz3
  have HF := Aside0.mk (And.intro hz3 (And.intro hB3 hrr))
  clear hb3 hW2 hz2 hg2 hbW hb3' hz3 hg3 hB3 hrr hgg
  by_cases hz0 : z = 0
  · subst hz0
    go_wp2_with fail
    refine bodyPost_ret (results_cell_row2 rfl _ _ r 56 #[.int .i64 5, .int .u32 (adAt l 4), .int .u32 0, .int .u32 0, .int .u32 (adAt l 8), .int .i64 0, .int .i64 0, .bool false, .slice none 0 0] (0, 0) _ rfl (blk_put9 HF.out.1) hu rfl (by kernel_rfl)) rfl ?_
    refine ⟨by first | rfl | (rw [if_pos rfl]; rfl), ?_⟩
    iterate 9 (refine Below.setCell ?_ (Nat.le_of_eq HF.out.2.2.symm) _)
    exact HF.out.2.1
  · have HZ0 := Aside0.mk hz0
    have hzb : (z != 0) = true := bne_iff_ne.2 hz0
    have hzd : decide (z = 0) = false := decide_eq_false hz0
    have hze : (z == 0) = false := beq_eq_false_iff_ne.2 hz0
    go_wp2_with fail
    refine bodyPost_ret (results_cell_row2 rfl _ _ r 56 #[.int .i64 0, .int .u32 0, .int .u32 0, .int .u32 0, .int .u32 0, .int .i64 0, .int .i64 0, .bool false, .slice none 0 0] (0, 0) _ rfl (blk_put9 HF.out.1) hu rfl (by kernel_rfl)) rfl ?_
    refine ⟨by first | rfl | (rw [if_neg HZ0.out]; rfl), ?_⟩
    iterate 9 (refine Below.setCell ?_ (Nat.le_of_eq HF.out.2.2.symm) _)
    exact HF.out.2.1
end Go.Proofs.YtbgbplbkombfjaaDoor
namespace Go.Proofs.YtbgbplbkombfjaaDoor
open Go.RowKit Go.Proofs.YtbgbplbkombfjaaDoorW.PrintWords SumPlain
set_option linter.unusedVariables false
set_option linter.unusedSimpArgs false
theorem rread_zero (k : Nat) (code : Int) (hc : codeOf (some k) = code) (args : Array Value) (w : World) (h : Calls Tryd.prog 35 args w fun e w' => ∃ A1 n1 c1, e = .returned (.tuple #[.agg (zMsg.cells (.slice A1 n1 c1)), .int .i64 code]) ∧ Kd.C (Kd.int .u32) w' A1 n1 zMsg.l ∧ Below w.heap.size w w') :
    Calls Tryd.prog 35 args w fun e w' => ∃ A1 n1 c1, e = .returned (.tuple #[.agg ((zMsg, some k).1.cells (.slice A1 n1 c1)), .int .i64 (codeOf (zMsg, some k).2)]) ∧ Kd.C (Kd.int .u32) w' A1 n1 (zMsg, some k).1.l ∧ Below w.heap.size w w' := by
  rw [← hc] at h
  exact h
theorem code_pos (k : Nat) : ¬ codeOf (some k) = 0 := by
  show ¬ (101 + (ordE.idxOf k : Int) = 0)
  omega
def finR (M : Msg) : Msg × Option Nat := match validL M with
  | some i => (zMsg, some i)
  | none => (M, none)
theorem finR_fst (M : Msg) : (finR M).1 = if codeOf (validL M) = 0 then M else zMsg := by
  unfold finR
  cases h : validL M with
  | none => rfl
  | some k => exact (if_neg (code_pos k)).symm
theorem finR_snd (M : Msg) : (finR M).2 = validL M := by
  unfold finR
  cases h : validL M with
  | none => rfl
  | some k => rfl
theorem rread_fin (M : Msg) (hl : M.l = []) (args : Array Value) (w : World) (h : Calls Tryd.prog 35 args w fun e w' => e = .returned (.tuple #[.agg ((if codeOf (validL M) = 0 then M else zMsg).cells (.slice none 0 0)), .int .i64 (codeOf (validL M))]) ∧ Below w.heap.size w w') :
    Calls Tryd.prog 35 args w fun e w' => ∃ A1 n1 c1, e = .returned (.tuple #[.agg ((finR M).1.cells (.slice A1 n1 c1)), .int .i64 (codeOf (finR M).2)]) ∧ Kd.C (Kd.int .u32) w' A1 n1 (finR M).1.l ∧ Below w.heap.size w w' := by
  rw [finR_fst, finR_snd]
  refine h.mono ?_
  rintro e w' ⟨rfl, hb⟩
  refine ⟨none, 0, 0, rfl, ?_, hb⟩
  have e0 : (if codeOf (validL M) = 0 then M else zMsg).l = [] := by
    split
    · exact hl
    · rfl
  rw [e0]
  exact nil_C _
theorem rread_fin4 (M : Msg) (args : Array Value) (w : World) (h : Calls Tryd.prog 35 args w fun e w' => ∃ v, e = .returned (.tuple #[.agg ((if codeOf (validL M) = 0 then M else zMsg).cells v), .int .i64 (codeOf (validL M))]) ∧ (Kd.int .u32).R 23 w' w.heap.size (fun _ => True) v (if codeOf (validL M) = 0 then M else zMsg).l ∧ Below w.heap.size w w') :
    Calls Tryd.prog 35 args w fun e w' => ∃ A1 n1 c1, e = .returned (.tuple #[.agg ((finR M).1.cells (.slice A1 n1 c1)), .int .i64 (codeOf (finR M).2)]) ∧ Kd.C (Kd.int .u32) w' A1 n1 (finR M).1.l ∧ Below w.heap.size w w' := by
  rw [finR_fst, finR_snd]
  refine h.mono ?_
  rintro e w' ⟨v, rfl, hR, hb⟩
  obtain ⟨A9, c9, rfl, hle9, hC9⟩ := Kd.R_reads hR
  exact ⟨A9, _, c9, rfl, hC9, hb⟩
theorem readM_fin (l : List Int) (K : Int) (hK : K = l.getD 0 0 - 32) (hk : 1 ≤ K ∧ K ≤ 5) (d1 : ¬ l.length < 4) (d2 : ofL l = 0) (d3 : l.getD 1 0 = 0) (hs : l.length = sizeR K l) (ho : ¬ 1 < onlyAt K l) : readM l = finR (posM K l) := by
  have hM := msgR_pos K hk l (by omega)
  unfold readM finR
  rw [if_neg d1, if_neg (fun h => h d2), if_neg (fun h => h d3), ← hK, if_neg (fun h => h hk), hM]
  simp only
  rw [if_neg (by simp), if_neg (by
    rintro (h | h)
    · simp only [List.length_drop] at h; omega
    · exact ho h)]
  cases validL (posM K l) with
  | none => rfl
  | some k => rfl
theorem refRead_msg (A : Option Addr) (n c : Nat) (l : List Int) (w : World) (hr : Kd.C (Kd.int .u8) w A n l) (hby : Byt l) (hl : l.length ≤ 1000000) :
    Calls Tryd.prog 35 #[.slice A n c] w fun e w' => ∃ A1 n1 c1, e = .returned (.tuple #[.agg ((readM l).1.cells (.slice A1 n1 c1)), .int .i64 (codeOf (readM l).2)]) ∧ Kd.C (Kd.int .u32) w' A1 n1 (readM l).1.l ∧ Below w.heap.size w w' := by
  have hn : l.length = n := hr.1
  by_cases d1 : l.length < 4
  · unfold readM
    rw [if_pos d1]
    exact rread_zero _ 101 code_end _ w (rread_short A n c w (by omega))
  by_cases d2 : ofL l ≠ 0
  · unfold readM
    rw [if_neg d1, if_pos d2]
    exact rread_zero _ 105 code_sum _ w (rread_sum A n c l w hr hby hl (by omega) d2)
  have d2' : ofL l = 0 := Classical.not_not.1 d2
  by_cases d3 : l.getD 1 0 ≠ 0
  · unfold readM
    rw [if_neg d1, if_neg d2, if_pos d3]
    exact rread_zero _ 102 code_shape _ w (rread_shape A n c l w hr hby hl (by omega) d2' d3)
  have d3' : l.getD 1 0 = 0 := Classical.not_not.1 d3
  obtain ⟨K, hKK⟩ : ∃ K, K = l.getD 0 0 - 32 := ⟨_, rfl⟩
  by_cases d4 : ¬ (1 ≤ K ∧ K ≤ 5)
  · unfold readM
    rw [if_neg d1, if_neg d2, if_neg d3, ← hKK, if_pos d4]
    by_cases hlo : K < 1
    · exact rread_zero _ 113 code_kind _ w (rread_kindlo A n c l w hr hby hl (by omega) d2' d3' (by omega))
    · exact rread_zero _ 113 code_kind _ w (rread_kindhi A n c l w hr hby hl (by omega) d2' d3' (by omega))
  have hK := Classical.not_not.1 d4
  have h13 := byt_getD hby 13
  by_cases hs : l.length < sizeR K l
  · have hbad := msgR_short K hK l (by omega) hs
    unfold readM
    rw [if_neg d1, if_neg d2, if_neg d3, ← hKK, if_neg d4, if_pos hbad]
    refine rread_zero _ 101 code_end _ w ?_
    obtain rfl | rfl | rfl | rfl | rfl : K = 1 ∨ K = 2 ∨ K = 3 ∨ K = 4 ∨ K = 5 := by omega
    · have e : sizeR 1 l = 10 := by simp [sizeR]
      exact rread_end1 A n c l w hr hby hl (by omega) d2' d3' (by omega) (by omega)
    · have e : sizeR 2 l = 20 := by simp [sizeR]
      exact rread_end2 A n c l w hr hby hl (by omega) d2' d3' (by omega) (by omega)
    · have e : sizeR 3 l = 18 := by simp [sizeR]
      exact rread_end3 A n c l w hr hby hl (by omega) d2' d3' (by omega) (by omega)
    · have e : sizeR 4 l = 14 + 4 * (l.getD 13 0).toNat := by simp [sizeR]
      by_cases h14 : n < 14
      · exact rread_end4 A n c l w hr hby hl (by omega) d2' d3' (by omega) h14
      · exact rread_end4b A n c l w hr hby hl (by omega) d2' d3' (by omega) (by omega) (by omega)
    · have e : sizeR 5 l = 12 := by simp [sizeR]
      exact rread_end5 A n c l w hr hby hl (by omega) d2' d3' (by omega) (by omega)
  by_cases hlong : sizeR K l < l.length
  · have hM := msgR_pos K hK l (by omega)
    unfold readM
    rw [if_neg d1, if_neg d2, if_neg d3, ← hKK, if_neg d4, hM]
    simp only
    rw [if_neg (by simp), if_pos (Or.inl (by simp only [List.length_drop]; omega))]
    refine rread_zero _ 102 code_shape _ w ?_
    obtain rfl | rfl | rfl | rfl | rfl : K = 1 ∨ K = 2 ∨ K = 3 ∨ K = 4 ∨ K = 5 := by omega
    · have e : sizeR 1 l = 10 := by simp [sizeR]
      exact rread_long1 A n c l w hr hby hl (by omega) d2' d3' (by omega) (by omega)
    · have e : sizeR 2 l = 20 := by simp [sizeR]
      exact rread_long2 A n c l w hr hby hl (by omega) d2' d3' (by omega) (by omega)
    · have e : sizeR 3 l = 18 := by simp [sizeR]
      exact rread_long3 A n c l w hr hby hl (by omega) d2' d3' (by omega) (by omega)
    · have e : sizeR 4 l = 14 + 4 * (l.getD 13 0).toNat := by simp [sizeR]
      exact rread_long4 A n c l w hr hby hl (by omega) d2' d3' (by omega) (by omega) (by omega)
    · have e : sizeR 5 l = 12 := by simp [sizeR]
      exact rread_long5 A n c l w hr hby hl (by omega) d2' d3' (by omega) (by omega)
  have hsz : l.length = sizeR K l := by omega
  by_cases ho : 1 < onlyAt K l
  · have hM := msgR_pos K hK l (by omega)
    unfold readM
    rw [if_neg d1, if_neg d2, if_neg d3, ← hKK, if_neg d4, hM]
    simp only
    rw [if_neg (by simp), if_pos (Or.inr ho)]
    refine rread_zero _ 102 code_shape _ w ?_
    have hK4 : K = 4 := by
      unfold onlyAt at ho
      split at ho
      · assumption
      · omega
    subst hK4
    have e : sizeR 4 l = 14 + 4 * (l.getD 13 0).toNat := by simp [sizeR]
    have e2 : onlyAt 4 l = l.getD 12 0 := by simp [onlyAt]
    exact rread_only4 A n c l w hr hby hl (by omega) d2' d3' (by omega) (by omega) (by omega) (by omega)
  rw [readM_fin l K hKK hK d1 d2' d3' hsz ho]
  obtain rfl | rfl | rfl | rfl | rfl : K = 1 ∨ K = 2 ∨ K = 3 ∨ K = 4 ∨ K = 5 := by omega
  · have e : sizeR 1 l = 10 := by simp [sizeR]
    exact rread_fin _ (by simp [posM]) _ w (rread_at1 A n c l w hr hby hl (by omega) d2' d3' (by omega) (by omega))
  · have e : sizeR 2 l = 20 := by simp [sizeR]
    exact rread_fin _ (by simp [posM]) _ w (rread_at2 A n c l w hr hby hl (by omega) d2' d3' (by omega) (by omega))
  · have e : sizeR 3 l = 18 := by simp [sizeR]
    exact rread_fin _ (by simp [posM]) _ w (rread_at3 A n c l w hr hby hl (by omega) d2' d3' (by omega) (by omega))
  · have e : sizeR 4 l = 14 + 4 * (l.getD 13 0).toNat := by simp [sizeR]
    have e2 : onlyAt 4 l = l.getD 12 0 := by simp [onlyAt]
    exact rread_fin4 _ _ w (rread_at4 A n c l w hr hby hl (by omega) d2' d3' (by omega) (by omega) (by omega) (by omega))
  · have e : sizeR 5 l = 12 := by simp [sizeR]
    exact rread_fin _ (by simp [posM]) _ w (rread_at5 A n c l w hr hby hl (by omega) d2' d3' (by omega) (by omega))
end Go.Proofs.YtbgbplbkombfjaaDoor
