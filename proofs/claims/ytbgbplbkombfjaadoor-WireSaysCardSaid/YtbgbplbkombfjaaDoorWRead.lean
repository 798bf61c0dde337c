/- wire.Read: the ends before the message is read. -/
import Derived.Test.YtbgbplbkombfjaaDoorWReadL
import Derived.Test.YtbgbplbkombfjaaDoorSumPut
namespace Go.Proofs.YtbgbplbkombfjaaDoor
open Go.RowKit Go.Proofs.YtbgbplbkombfjaaDoorW.PrintWords SumPlain
set_option linter.unusedVariables false
set_option linter.unusedSimpArgs false
attribute [local go_sem] setCell_drewN alloc_drewN
def readErrs : List Nat := [0, 5, 4, 1, 3, 2]
theorem read_wire : ∀ i, i ∈ wireErrs → i ∈ readErrs := by decide
set_option maxHeartbeats 1000000 in
set_option maxRecDepth 100000 in
theorem read_short (E : Nat → Addr) (A : Option Addr) (n c : Nat) (w : World) (hE : Errs readErrs E w) (hs : n < 4) :
    Calls Tryd.prog 34 #[.slice A n c] w fun e w' => e = .returned (.tuple #[.agg #[.int .i64 0, .int .u32 0, .int .u32 0, .int .u32 0, .int .u32 0, .int .i64 0, .int .i64 0, .bool false, .slice none 0 0], errV E (some 1)]) ∧ Below w.heap.size w w' := by
  have hu := Tryd.underlying56
  have hc := pw_cell_below (below_alloc (Below.refl w.heap.size w) (.cells #[.int .i64 0, .int .u32 0, .int .u32 0, .int .u32 0, .int .u32 0, .int .i64 0, .int .i64 0, .bool false, .slice none 0 0] 56)) (hE.cell 1 (by simp [readErrs]))
  simp only [errV]
  clear hE
  go_enter Tryd.func34, Tryd.ntmps34
  go_wp2
  go_region
  all_goals go_wp2
  all_goals go_returns
  all_goals exact ⟨rfl, by go_grown⟩
set_option maxHeartbeats 1000000 in
set_option maxRecDepth 100000 in
theorem read_sum (E : Nat → Addr) (A : Option Addr) (n c : Nat) (l : List Int) (w : World) (hE : Errs readErrs E w) (hr : Kd.C (Kd.int .u8) w A n l) (hby : Byt l) (hl : l.length ≤ 1000000) (h4 : 4 ≤ n) (hz : ofL l ≠ 0) :
    Calls Tryd.prog 34 #[.slice A n c] w fun e w' => e = .returned (.tuple #[.agg #[.int .i64 0, .int .u32 0, .int .u32 0, .int .u32 0, .int .u32 0, .int .i64 0, .int .i64 0, .bool false, .slice none 0 0], errV E (some 3)]) ∧ Below w.heap.size w w' := by
  have hu := Tryd.underlying56
  have hb := below_alloc (Below.refl w.heap.size w) (.cells #[.int .i64 0, .int .u32 0, .int .u32 0, .int .u32 0, .int .u32 0, .int .i64 0, .int .i64 0, .bool false, .slice none 0 0] 56)
  have hc := pw_cell_below hb (hE.cell 3 (by simp [readErrs]))
  have HR := Aside0.mk (And.intro (Kd.C_below hr hb) (And.intro hby hl))
  have hmx := Kd.C_max hr
  have hzt : decide (ofL l = 0) = false := decide_eq_false hz
  simp only [errV]
  clear hE hr hb hz hby hl
  go_enter Tryd.func34, Tryd.ntmps34
  go_wp2_with fail
  refine (check_any A n c l _ HR.out.1 HR.out.2.1 HR.out.2.2).mono ?_
  rintro e w1 ⟨rfl, rfl⟩
  go_wp2
  go_region
  all_goals go_wp2
  all_goals go_returns
  all_goals exact ⟨rfl, by go_grown⟩
set_option maxHeartbeats 1000000 in
set_option maxRecDepth 100000 in
theorem read_shape (E : Nat → Addr) (A : Option Addr) (n c : Nat) (l : List Int) (w : World) (hE : Errs readErrs E w) (hr : Kd.C (Kd.int .u8) w A n l) (hby : Byt l) (hl : l.length ≤ 1000000) (h4 : 4 ≤ n) (hz : ofL l = 0) (h1 : l.getD 1 0 ≠ 0) :
    Calls Tryd.prog 34 #[.slice A n c] w fun e w' => e = .returned (.tuple #[.agg #[.int .i64 0, .int .u32 0, .int .u32 0, .int .u32 0, .int .u32 0, .int .i64 0, .int .i64 0, .bool false, .slice none 0 0], errV E (some 2)]) ∧ Below w.heap.size w w' := by
  have hu := Tryd.underlying56
  have hb := below_alloc (Below.refl w.heap.size w) (.cells #[.int .i64 0, .int .u32 0, .int .u32 0, .int .u32 0, .int .u32 0, .int .i64 0, .int .i64 0, .bool false, .slice none 0 0] 56)
  have hc := pw_cell_below hb (hE.cell 2 (by simp [readErrs]))
  have HR := Aside0.mk (And.intro (Kd.C_below hr hb) (And.intro hby hl))
  have hmx := Kd.C_max hr
  obtain ⟨ad, b0, rfl, _, _⟩ := at_nat hr 0 (by omega)
  have c1 := pw_cell_below hb (cells_of hr 1 (by omega) (by omega))
  have hzt : decide (ofL l = 0) = true := decide_eq_true hz
  have h1t : (l.getD 1 0 != 0) = true := bne_iff_ne.2 h1
  generalize l.getD 1 0 = b1 at *
  simp only [errV]
  clear hE hr hb hz hby hl h1
  go_enter Tryd.func34, Tryd.ntmps34
  go_wp2_with fail
  refine (check_any (some ad) n c l _ HR.out.1 HR.out.2.1 HR.out.2.2).mono ?_
  rintro e w1 ⟨rfl, rfl⟩
  go_wp2
  go_region
  all_goals go_wp2
  all_goals go_returns
  all_goals exact ⟨rfl, by go_grown⟩
set_option maxHeartbeats 1000000 in
set_option maxRecDepth 100000 in
theorem wkind_any (K : Int) (w : World) : Calls Tryd.prog 50 #[.int .i64 K] w fun e w' => e = .returned (.bool (decide (1 ≤ K ∧ K ≤ 5))) ∧ Drawn0 w w' := by
  by_cases h0 : 1 ≤ K
  · by_cases h1 : K ≤ 5
    · have d0 : decide (1 ≤ K) = true := decide_eq_true h0
      have d1 : decide (K ≤ 5) = true := decide_eq_true h1
      have HD : Aside0 (decide (1 ≤ K ∧ K ≤ 5) = true) := ⟨decide_eq_true ⟨h0, h1⟩⟩
      rw [HD.out]
      clear HD
      go_enter Tryd.func50, Tryd.ntmps50
      go_wp2
      repeat (go_quiet (fail); try go_wp2)
      go_ret
      exact ⟨rfl, by repeat (first | exact Drawn0.refl _ | apply Drawn0.step)⟩
    · have d0 : decide (1 ≤ K) = true := decide_eq_true h0
      have d1 : decide (K ≤ 5) = false := decide_eq_false h1
      have HD : Aside0 (decide (1 ≤ K ∧ K ≤ 5) = false) := ⟨decide_eq_false (fun h => h1 h.2)⟩
      rw [HD.out]
      clear HD
      go_enter Tryd.func50, Tryd.ntmps50
      go_wp2
      repeat (go_quiet (fail); try go_wp2)
      go_ret
      exact ⟨rfl, by repeat (first | exact Drawn0.refl _ | apply Drawn0.step)⟩
  · have d0 : decide (1 ≤ K) = false := decide_eq_false h0
    have HD : Aside0 (decide (1 ≤ K ∧ K ≤ 5) = false) := ⟨decide_eq_false (fun h => h0 h.1)⟩
    rw [HD.out]
    clear HD
    go_enter Tryd.func50, Tryd.ntmps50
    go_wp2
    repeat (go_quiet (fail); try go_wp2)
    go_ret
    exact ⟨rfl, by repeat (first | exact Drawn0.refl _ | apply Drawn0.step)⟩
set_option maxHeartbeats 1000000 in
set_option maxRecDepth 100000 in
theorem read_kind (E : Nat → Addr) (A : Option Addr) (n c : Nat) (l : List Int) (w : World) (hE : Errs readErrs E w) (hr : Kd.C (Kd.int .u8) w A n l) (hby : Byt l) (hl : l.length ≤ 1000000) (h4 : 4 ≤ n) (hz : ofL l = 0) (h1 : l.getD 1 0 = 0) (hk : ¬ (1 ≤ l.getD 0 0 - 32 ∧ l.getD 0 0 - 32 ≤ 5)) :
    Calls Tryd.prog 34 #[.slice A n c] w fun e w' => e = .returned (.tuple #[.agg #[.int .i64 0, .int .u32 0, .int .u32 0, .int .u32 0, .int .u32 0, .int .i64 0, .int .i64 0, .bool false, .slice none 0 0], errV E (some 4)]) ∧ Below w.heap.size w w' := by
  have hu := Tryd.underlying56
  have hb := below_alloc (Below.refl w.heap.size w) (.cells #[.int .i64 0, .int .u32 0, .int .u32 0, .int .u32 0, .int .u32 0, .int .i64 0, .int .i64 0, .bool false, .slice none 0 0] 56)
  have hc := pw_cell_below hb (hE.cell 4 (by simp [readErrs]))
  have HR := Aside0.mk (And.intro (Kd.C_below hr hb) (And.intro hby hl))
  have hmx := Kd.C_max hr
  obtain ⟨k0, k0'⟩ := byt_getD hby 0
  obtain ⟨ad, b0, rfl, _, _⟩ := at_nat hr 0 (by omega)
  have c1 := pw_cell_below hb (cells_of hr 1 (by omega) (by omega))
  have c0 := pw_cell_below hb (cell0_of hr (by omega))
  rw [h1] at c1
  have hzt : decide (ofL l = 0) = true := decide_eq_true hz
  have HK := Aside0.mk (show decide (1 ≤ l.getD 0 0 - 32 ∧ l.getD 0 0 - 32 ≤ 5) = false from decide_eq_false hk)
  generalize l.getD 0 0 = b0 at *
  simp only [errV]
  clear hE hr hz hby hl h1 hk
  obtain ⟨W, hW⟩ : ∃ W, W = w.alloc (.cells #[.int .i64 0, .int .u32 0, .int .u32 0, .int .u32 0, .int .u32 0, .int .i64 0, .int .i64 0, .bool false, .slice none 0 0] 56) := ⟨_, rfl⟩
  go_enter Tryd.func34, Tryd.ntmps34
  go_wp2_with fail
  refine (check_any (some ad) n c l _ HR.out.1 HR.out.2.1 HR.out.2.2).mono ?_
  rintro e w1 ⟨rfl, rfl⟩
  go_wp2_with fail
  refine (wkind_any (b0 - 32) _).mono ?_
  rintro e w1 ⟨rfl, ⟨nq, rfl⟩⟩
  rw [HK.out]
  go_wp2
  go_region
  all_goals go_wp2
  all_goals go_returns
  all_goals exact ⟨rfl, by first | exact pw_below_drewN (below_alloc (Below.refl _ _) _) _ | go_grown⟩
end Go.Proofs.YtbgbplbkombfjaaDoor
