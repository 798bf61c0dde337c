-- PRINTED BY print.sh 35421559b90ae4d0a3588c463048766b98c2df88dd9212a6774a882060cdf62d: not written by this session
import Derived.Test.YtjcihhkeehjgdaaPFwdSaysx0
import Derived.Test.YtjcihhkeehjgdaaPFwdSaysx3
import Derived.Test.YtjcihhkeehjgdaaPFwdSaysx4
namespace Go.Proofs.Ytjcihhkeehjgdaa.PFwdSays
open Go.RowKit Go.Proofs.YtjcihhkeehjgdaaW.PrintWords Go.Proofs.YtjcihhkeehjgdaaW.PrintLast Go.Proofs.YtjcihhkeehjgdaaW.PrintMore
attribute [local go_sem] max2_int min2_int max_two min_two max_three min_three max_four min_four   -- for this text's walks alone
set_option linter.unusedVariables false
set_option linter.unusedSimpArgs false

/-! ### rivuletref8_Do: function 42 -/
def rivuletref8_Do.l0 : Nat → List (S104) → List (S106) → Int → Int → List Int → Int → Int → Int → Option (Int × Int × Int × List Int)
  | 0, _, _, _, _, _, _, _, _ => none
  | k + 1, x0, x1, x4, x13, x14, x15, x130000, x130001 => if 0 ≤ x13 then (if x13 < (x0.length : Int) then (if x15 < (((rd_T104 x0 x13).f4).length : Int) then (if 0 ≤ x15 then (if (rd ((rd_T104 x0 x13).f4) x15) = x4 then (rivuletref8_Do.l0 k x0 x1 x4 x13 x14 (wrap64 (x15 + 1)) x130000 x130001) else ((rivuletref8_IsLost.f k x1 (rd ((rd_T104 x0 x13).f4) x15) x130000 x130001).bind fun t137 => (if t137 = true then (rivuletref8_Do.l0 k x0 x1 x4 x13 x14 (wrap64 (x15 + 1)) x130000 x130001) else (if x14.length < 17592186044416 then (rivuletref8_Do.l0 k x0 x1 x4 x13 (x14 ++ [rd ((rd_T104 x0 x13).f4) x15]) (wrap64 (x15 + 1)) x130000 x130001) else (none))))) else (none)) else (some (2, (rd_T104 x0 x13).f3.f0, (rd_T104 x0 x13).f3.f1, x14))) else (none)) else (none)
def rivuletref8_Do.f (k : Nat) (l0 : List (S104)) (l1 : List (S106)) (a2 : Int) (a3_0 : Int) (a3_1 : Int) (a4 : Int) : Option (Int × Int × Int × List Int) := (rivuletref8_Used.f k l0 a2 a3_0 a3_1).bind fun t131 => (if t131 < 0 then (some (0, 0, 0, ([] : List Int))) else (if 0 ≤ t131 then (if t131 < (l0.length : Int) then (if ((rd_T104 l0 t131).f1) = a4 then (rivuletref8_Do.l0 k l0 l1 a4 t131 ([] : List Int) 0 a3_0 a3_1) else (some (1, (rd_T104 l0 t131).f3.f0, (rd_T104 l0 t131).f3.f1, ([] : List Int)))) else (none)) else (none)))
theorem rivuletref8_Do.mono_l : ∀ k, (∀ y0 y1 y2 y3 y4 y5 y6 y7, LeO (rivuletref8_Do.l0 k y0 y1 y2 y3 y4 y5 y6 y7) (rivuletref8_Do.l0 (k + 1) y0 y1 y2 y3 y4 y5 y6 y7))
  | 0 => fun _ _ _ _ _ _ _ _ r h => by simp [rivuletref8_Do.l0] at h
  | k + 1 => by
    have ih0 := rivuletref8_Do.mono_l k
    · intro y0 y1 y2 y3 y4 y5 y6 y7
      unfold rivuletref8_Do.l0
      repeat' first
      | (with_reducible exact ih0 _ _ _ _ _ _ _ _)
      | (with_reducible exact rivuletref8_IsLost.mono _ _ _ _ _)
      | (with_reducible exact rivuletref8_Used.mono _ _ _ _ _)
      | (with_reducible exact LeO.refl _)
      | (with_reducible exact LeO.none _)
      | (with_reducible refine LeO.ite ?_ ?_)
      | (with_reducible refine LeO.bind ?_ (fun _ => ?_))
      | exact ih0 _ _ _ _ _ _ _ _
      | exact rivuletref8_IsLost.mono _ _ _ _ _
      | exact rivuletref8_Used.mono _ _ _ _ _
      | exact LeO.none _
      | refine LeO.ite ?_ ?_
      | refine LeO.bind ?_ (fun _ => ?_)
theorem rivuletref8_Do.mono : ∀ a0 a1 a2 a3 a4 a5 k, LeO (rivuletref8_Do.f k a0 a1 a2 a3 a4 a5) (rivuletref8_Do.f (k + 1) a0 a1 a2 a3 a4 a5) := by
  intro a0 a1 a2 a3 a4 a5 k
  have ih0 := rivuletref8_Do.mono_l k
  unfold rivuletref8_Do.f
  repeat' first
      | (with_reducible exact ih0 _ _ _ _ _ _ _ _)
      | (with_reducible exact rivuletref8_IsLost.mono _ _ _ _ _)
      | (with_reducible exact rivuletref8_Used.mono _ _ _ _ _)
      | (with_reducible exact LeO.refl _)
      | (with_reducible exact LeO.none _)
      | (with_reducible refine LeO.ite ?_ ?_)
      | (with_reducible refine LeO.bind ?_ (fun _ => ?_))
      | exact ih0 _ _ _ _ _ _ _ _
      | exact rivuletref8_IsLost.mono _ _ _ _ _
      | exact rivuletref8_Used.mono _ _ _ _ _
      | exact LeO.none _
      | refine LeO.ite ?_ ?_
      | refine LeO.bind ?_ (fun _ => ?_)
def rivuletref8_Do.T5 : Bool × List (List Nat × List Nat) := (true, [([], []), ([], []), ([0, 1], [0, 1]), ([2], [2]), ([3], [3]), ([], []), ([4, 5, 0, 1, 2, 3, 4, 5], [4]), ([6, 0, 1, 2, 3, 4, 5, 6], [])])
def rivuletref8_Do.B5 : List Nat := [0, 0, 3, 7, 15, 0, 63, 127]
theorem rivuletref8_Do.tab5 : rtab .any (opsOf Try.f42 5) = rivuletref8_Do.T5 := by kernel_rfl
theorem rivuletref8_Do.bits5 : waitsOk rivuletref8_Do.T5.2 rivuletref8_Do.B5 = true := by kernel_rfl
def rivuletref8_Do.T13 : Bool × List (List Nat × List Nat) := (true, [([], []), ([], []), ([0, 1], [0, 1]), ([2], [2]), ([3], [3]), ([], []), ([], []), ([4, 6, 0, 1, 2, 3, 4, 6], [4]), ([5, 7, 0, 1, 2, 3, 4, 5, 6, 7], [5])])
def rivuletref8_Do.B13 : List Nat := [0, 0, 3, 7, 15, 0, 0, 95, 255]
theorem rivuletref8_Do.tab13 : rtab .any (opsOf Try.f42 13) = rivuletref8_Do.T13 := by kernel_rfl
theorem rivuletref8_Do.bits13 : waitsOk rivuletref8_Do.T13.2 rivuletref8_Do.B13 = true := by kernel_rfl
set_option maxHeartbeats 8000000 in
set_option maxRecDepth 100000 in
theorem rivuletref8_Do.calls (k : Nat) (A0 : Option Addr) (c0 : Nat) (l0 : List (S104)) (A1 : Option Addr) (c1 : Nat) (l1 : List (S106)) (a2 : Int) (a3_0 : Int) (a3_1 : Int) (a4 : Int) (r1 : Int) (r2 : Int) (r3 : Int) (r4 : List Int) (w : World) (hr0 : Kd.C k104 w A0 l0.length l0) (hc0 : l0.length ≤ c0) (hr1 : Kd.C k106 w A1 l1.length l1) (hc1 : l1.length ≤ c1) (h : rivuletref8_Do.f k l0 l1 a2 a3_0 a3_1 a4 = some (r1, r2, r3, r4)) :
    Calls Try.prog 42 #[.slice A0 l0.length c0, .slice A1 l1.length c1, .int .i64 a2, .agg #[.int .u32 a3_0, .int .u32 a3_1], .int .i64 a4] w fun e w' => ∃ v3_ : Value, e = .returned (.tuple #[.int .i64 r1, .agg #[.int .u32 r2, .int .u32 r3], v3_]) ∧ Kd.R (Kd.int .i64) 3 w' w.heap.size (fun _ => True) v3_ r4 ∧ Below w.heap.size w w' := by
  have hu69 := Try.underlying69
  have HR0 := Aside0.mk hr0
  have HC0 := Aside0.mk hc0
  clear hr0 hc0
  have HR1 := Aside0.mk hr1
  have HC1 := Aside0.mk hc1
  clear hr1 hc1
  have HB := Aside0.mk (Below.refl w.heap.size w)
  have H : ((rivuletref8_Used.f k l0 a2 a3_0 a3_1).bind fun t131 => (if t131 < 0 then (some (0, 0, 0, ([] : List Int))) else (if 0 ≤ t131 then (if t131 < (l0.length : Int) then (if ((rd_T104 l0 t131).f1) = a4 then (rivuletref8_Do.l0 k l0 l1 a4 t131 ([] : List Int) 0 a3_0 a3_1) else (some (1, (rd_T104 l0 t131).f3.f0, (rd_T104 l0 t131).f3.f1, ([] : List Int)))) else (none)) else (none)))) = some (r1, r2, r3, r4) := h
  clear h
  replace H := Option.bind_eq_some_iff.mp H
  obtain ⟨t131, A60, H⟩ := H
  replace H : (if t131 < 0 then (some (0, 0, 0, ([] : List Int))) else (if 0 ≤ t131 then (if t131 < (l0.length : Int) then (if ((rd_T104 l0 t131).f1) = a4 then (rivuletref8_Do.l0 k l0 l1 a4 t131 ([] : List Int) 0 a3_0 a3_1) else (some (1, (rd_T104 l0 t131).f3.f0, (rd_T104 l0 t131).f3.f1, ([] : List Int)))) else (none)) else (none))) = some (r1, r2, r3, r4) := H
  have A6 := Aside0.mk A60
  clear A60
  by_cases c7 : t131 < 0
  · rw [if_pos c7] at H
    have c7b0 : decide (t131 < 0) = true := decide_eq_true c7
    clear c7
    simp only [Option.some.injEq, Prod.mk.injEq] at H
    obtain ⟨rfl, rfl, rfl, rfl⟩ := H
    go_enter Try.func42, Try.ntmps42
    go_wp2_with (first | ((with_reducible refine gate_dst (N := 8) rfl ?_); refine box_event ?hg (N := 8) ?hd (cs := #[.int .u32 a3_0, .int .u32 a3_1]) (t := 69) ?hr ?_; (case hd => rfl); (case hg => rfl); (case hr => first | (go_simp; done) | (go_simp; rfl)); intro gb129 hg w8 hbox hb; have n0_ := Aside0.mk (below_step (by repeat (first | (with_reducible first | exact HB.out | apply below_alloc | apply pw_below_drewN | apply below_drew1) | exact HB.out)) hb); have n1_ := Aside0.mk (hbox); have n2_ := Aside0.mk ((by rw [hg]; exact (below_size (by repeat (first | (with_reducible first | exact HB.out | apply below_alloc | apply pw_below_drewN | apply below_drew1) | exact HB.out))) : w.heap.size ≤ gb129)); have n3_ := Aside0.mk ((by rw [hg]; exact (below_size (by repeat (first | (with_reducible first | exact HB.out | apply below_alloc | apply pw_below_drewN | apply below_drew1) | exact HB.out))) : w.heap.size ≤ gb129)); clear HB; have HB := n0_; have BK129 := n1_; have GW129 := n2_; have GE129 := n3_; clear n0_ n1_ n2_ n3_; clear hb hbox hg) | ((with_reducible refine gate_dst (N := 11) rfl ?_); refine box_event ?hg (N := 11) ?hd (cs := #[.int .u32 0, .int .u32 0]) (t := 69) ?hr ?_; (case hd => rfl); (case hg => rfl); (case hr => first | (go_simp; done) | (go_simp; rfl)); intro gb130 hg w9 hbox hb; have n0_ := Aside0.mk (blk_below (g := gb129) (o := .cells #[.int .u32 a3_0, .int .u32 a3_1] 69 (0, 0)) (by (with_reducible repeat (first | refine blk_drewN ?_ _ | refine blk_drew ?_ | refine blk_alloc ?_ _)); exact BK129.out) hb); have n1_ := Aside0.mk (below_step (by repeat (first | (with_reducible first | exact HB.out | apply below_alloc | apply pw_below_drewN | apply below_drew1 | refine below_set ?_ GE129.out) | exact HB.out)) hb); have n2_ := Aside0.mk (hbox); have n3_ := Aside0.mk ((by rw [hg]; exact (below_size (by repeat (first | (with_reducible first | exact HB.out | apply below_alloc | apply pw_below_drewN | apply below_drew1 | refine below_set ?_ GE129.out) | exact HB.out))) : w.heap.size ≤ gb130)); have n4_ := Aside0.mk ((by rw [hg]; exact (below_size (by repeat (first | (with_reducible first | exact HB.out | apply below_alloc | apply pw_below_drewN | apply below_drew1 | refine below_set ?_ GE129.out) | exact HB.out))) : w.heap.size ≤ gb130)); have n5_ := Aside0.mk ((by rw [hg]; exact Nat.ne_of_lt (blk_lt (g := gb129) (o := .cells #[.int .u32 a3_0, .int .u32 a3_1] 69 (0, 0)) (by (with_reducible repeat (first | refine blk_drewN ?_ _ | refine blk_drew ?_ | refine blk_alloc ?_ _)); exact BK129.out)) : gb129 ≠ gb130)); have n6_ := Aside0.mk ((by rw [hg]; exact Nat.ne_of_gt (blk_lt (g := gb129) (o := .cells #[.int .u32 a3_0, .int .u32 a3_1] 69 (0, 0)) (by (with_reducible repeat (first | refine blk_drewN ?_ _ | refine blk_drew ?_ | refine blk_alloc ?_ _)); exact BK129.out)) : gb130 ≠ gb129)); clear BK129; clear HB; have BK129 := n0_; have HB := n1_; have BK130 := n2_; have GW130 := n3_; have GE130 := n4_; have NB129_130 := n5_; have NB130_129 := n6_; clear n0_ n1_ n2_ n3_ n4_ n5_ n6_; clear hb hbox hg; have hnb10 := NB129_130.out; have hnc10 := NB130_129.out; have hcz11_0 : w9.cell? ⟨gb129, 0, none⟩ = some (.int .u32 a3_0) := (blk_cell BK129.out 0).trans rfl; have hcz11_1 : w9.cell? ⟨gb129, 1, none⟩ = some (.int .u32 a3_1) := (blk_cell BK129.out 1).trans rfl; have hfz11_0 := blk_frozen BK129.out 0; have hfz11_1 := blk_frozen BK129.out 1) | ((with_reducible refine gate_callee (f := 45) rfl ?_); refine goesL_ (some 20) rfl rfl Try.func45 (by kernel_rfl) rfl #[.slice A0 l0.length c0, .int .i64 a2, .agg #[.int .u32 a3_0, .int .u32 a3_1]] rfl (by (try simp only [List.map_toArray, List.map_cons, List.map_nil]); first | done | rfl | (simp only [List.length_drop, List.length_take]; rfl)) ?_; (with_reducible refine (rivuletref8_Used.calls k _ _ l0 a2 a3_0 a3_1 t131 _ ?side1 ?side2 A6.out).mono ?_); (case side1 => repeat (first | exact (Kd.C_below HR0.out HB.out) | (with_reducible refine Kd.C_alloc ?_ _) | (with_reducible refine Kd.C_drewN ?_ _) | (with_reducible refine Kd.C_drew ?_))); (case side2 => exact HC0.out); rintro e w12 ⟨rfl, hb⟩; refine ⟨_, rfl, ?_⟩; have n0_ := Aside0.mk (blk_below (g := gb129) (o := .cells #[.int .u32 a3_0, .int .u32 a3_1] 69 (0, 0)) (by (with_reducible repeat (first | refine blk_drewN ?_ _ | refine blk_drew ?_ | refine blk_alloc ?_ _)); exact BK129.out) hb); have n1_ := Aside0.mk (blk_below (g := gb130) (o := .cells #[.int .u32 0, .int .u32 0] 69 (0, 0)) (by (with_reducible repeat (first | refine blk_drewN ?_ _ | refine blk_drew ?_ | refine blk_alloc ?_ _)); exact BK130.out) hb); have n2_ := Aside0.mk (below_step (by repeat (first | (with_reducible first | exact HB.out | apply below_alloc | apply pw_below_drewN | apply below_drew1 | refine below_set ?_ GE129.out | refine below_set ?_ GE130.out) | exact HB.out)) hb); clear BK129; clear BK130; clear HB; have BK129 := n0_; have BK130 := n1_; have HB := n2_; clear n0_ n1_ n2_; (try clear hb); (try clear hb2); (try clear hk); (try clear hi); have hcz13_0 : w12.cell? ⟨gb130, 0, none⟩ = some (.int .u32 0) := (blk_cell BK130.out 0).trans rfl; have hcz13_1 : w12.cell? ⟨gb130, 1, none⟩ = some (.int .u32 0) := (blk_cell BK130.out 1).trans rfl; have hfz13_0 := blk_frozen BK130.out 0; have hfz13_1 := blk_frozen BK130.out 1))
    refine bodyPost_ret (results_list (rs := [.tmp 10, .cell 11 69, .tmp 12]) rfl (by simp) (.tmp (.cell gb130 69 #[.int .u32 0, .int .u32 0] (0, 0) _ rfl (by (with_reducible repeat (first | refine blk_drewN ?_ _ | refine blk_drew ?_ | refine blk_alloc ?_ _)); refine blk_put (cs := #[.int .u32 0, .int .u32 0]) ?_ 1 _ rfl; (with_reducible repeat (first | refine blk_drewN ?_ _ | refine blk_drew ?_ | refine blk_alloc ?_ _)); refine blk_put (cs := #[.int .u32 0, .int .u32 0]) ?_ 0 _ rfl; (with_reducible repeat (first | refine blk_drewN ?_ _ | refine blk_drew ?_ | refine blk_alloc ?_ _)); exact BK130.out) Try.underlying69 rfl (by kernel_rfl) (.tmp .nil)))) rfl ?_
    exact ⟨_, by first | rfl | (simp [errW_none, errW_some] <;> rfl) | (simp [*, errW_none, errW_some] <;> rfl), by first | exact Kd.R_nil _ _ _ _ _ | exact Kd.N_nil _ _ _ _ _ | exact Kd.V_nil _ _ _ _ _ | exact Kd.Q_nil _ _ _ _ _ | exact Kd.S_nil _ _ _ _ _, by repeat (first | (with_reducible first | exact HB.out | apply below_alloc | apply pw_below_drewN | apply below_drew1 | refine below_set ?_ GE129.out | refine below_set ?_ GE130.out) | exact HB.out)⟩
  · rw [if_neg c7] at H
    have c7b0 : decide (t131 < 0) = false := decide_eq_false c7
    clear c7
    by_cases c14 : 0 ≤ t131
    · rw [if_pos c14] at H
      have c14b0 : decide (0 ≤ t131) = true := decide_eq_true c14
      clear c14
      by_cases c15 : t131 < (l0.length : Int)
      · rw [if_pos c15] at H
        have c15b0 : decide (t131 < (l0.length : Int)) = true := decide_eq_true c15
        clear c15
        by_cases c16 : ((rd_T104 l0 t131).f1) = a4
        · rw [if_pos c16] at H
          have c16b0 : (((rd_T104 l0 t131).f1) == a4) = true := beq_iff_eq.mpr c16
          have c16b1 : (((rd_T104 l0 t131).f1) != a4) = false := bne_eq_false_iff_eq.mpr c16
          clear c16
          have H' := Aside0.mk H
          clear H
          go_enter Try.func42, Try.ntmps42
          go_wp2_with (first | ((with_reducible refine gate_dst (N := 8) rfl ?_); refine box_event ?hg (N := 8) ?hd (cs := #[.int .u32 a3_0, .int .u32 a3_1]) (t := 69) ?hr ?_; (case hd => rfl); (case hg => rfl); (case hr => first | (go_simp; done) | (go_simp; rfl)); intro gb129 hg w17 hbox hb; have n0_ := Aside0.mk (below_step (by repeat (first | (with_reducible first | exact HB.out | apply below_alloc | apply pw_below_drewN | apply below_drew1) | exact HB.out)) hb); have n1_ := Aside0.mk (hbox); have n2_ := Aside0.mk ((by rw [hg]; exact (below_size (by repeat (first | (with_reducible first | exact HB.out | apply below_alloc | apply pw_below_drewN | apply below_drew1) | exact HB.out))) : w.heap.size ≤ gb129)); have n3_ := Aside0.mk ((by rw [hg]; exact (below_size (by repeat (first | (with_reducible first | exact HB.out | apply below_alloc | apply pw_below_drewN | apply below_drew1) | exact HB.out))) : w.heap.size ≤ gb129)); clear HB; have HB := n0_; have BK129 := n1_; have GW129 := n2_; have GE129 := n3_; clear n0_ n1_ n2_ n3_; clear hb hbox hg) | ((with_reducible refine gate_dst (N := 11) rfl ?_); refine box_event ?hg (N := 11) ?hd (cs := #[.int .u32 0, .int .u32 0]) (t := 69) ?hr ?_; (case hd => rfl); (case hg => rfl); (case hr => first | (go_simp; done) | (go_simp; rfl)); intro gb130 hg w18 hbox hb; have n0_ := Aside0.mk (blk_below (g := gb129) (o := .cells #[.int .u32 a3_0, .int .u32 a3_1] 69 (0, 0)) (by (with_reducible repeat (first | refine blk_drewN ?_ _ | refine blk_drew ?_ | refine blk_alloc ?_ _)); exact BK129.out) hb); have n1_ := Aside0.mk (below_step (by repeat (first | (with_reducible first | exact HB.out | apply below_alloc | apply pw_below_drewN | apply below_drew1 | refine below_set ?_ GE129.out) | exact HB.out)) hb); have n2_ := Aside0.mk (hbox); have n3_ := Aside0.mk ((by rw [hg]; exact (below_size (by repeat (first | (with_reducible first | exact HB.out | apply below_alloc | apply pw_below_drewN | apply below_drew1 | refine below_set ?_ GE129.out) | exact HB.out))) : w.heap.size ≤ gb130)); have n4_ := Aside0.mk ((by rw [hg]; exact (below_size (by repeat (first | (with_reducible first | exact HB.out | apply below_alloc | apply pw_below_drewN | apply below_drew1 | refine below_set ?_ GE129.out) | exact HB.out))) : w.heap.size ≤ gb130)); have n5_ := Aside0.mk ((by rw [hg]; exact Nat.ne_of_lt (blk_lt (g := gb129) (o := .cells #[.int .u32 a3_0, .int .u32 a3_1] 69 (0, 0)) (by (with_reducible repeat (first | refine blk_drewN ?_ _ | refine blk_drew ?_ | refine blk_alloc ?_ _)); exact BK129.out)) : gb129 ≠ gb130)); have n6_ := Aside0.mk ((by rw [hg]; exact Nat.ne_of_gt (blk_lt (g := gb129) (o := .cells #[.int .u32 a3_0, .int .u32 a3_1] 69 (0, 0)) (by (with_reducible repeat (first | refine blk_drewN ?_ _ | refine blk_drew ?_ | refine blk_alloc ?_ _)); exact BK129.out)) : gb130 ≠ gb129)); clear BK129; clear HB; have BK129 := n0_; have HB := n1_; have BK130 := n2_; have GW130 := n3_; have GE130 := n4_; have NB129_130 := n5_; have NB130_129 := n6_; clear n0_ n1_ n2_ n3_ n4_ n5_ n6_; clear hb hbox hg; have hnb19 := NB129_130.out; have hnc19 := NB130_129.out; have hcz20_0 : w18.cell? ⟨gb129, 0, none⟩ = some (.int .u32 a3_0) := (blk_cell BK129.out 0).trans rfl; have hcz20_1 : w18.cell? ⟨gb129, 1, none⟩ = some (.int .u32 a3_1) := (blk_cell BK129.out 1).trans rfl; have hfz20_0 := blk_frozen BK129.out 0; have hfz20_1 := blk_frozen BK129.out 1) | ((with_reducible refine gate_callee (f := 45) rfl ?_); refine goesL_ (some 20) rfl rfl Try.func45 (by kernel_rfl) rfl #[.slice A0 l0.length c0, .int .i64 a2, .agg #[.int .u32 a3_0, .int .u32 a3_1]] rfl (by (try simp only [List.map_toArray, List.map_cons, List.map_nil]); first | done | rfl | (simp only [List.length_drop, List.length_take]; rfl)) ?_; (with_reducible refine (rivuletref8_Used.calls k _ _ l0 a2 a3_0 a3_1 t131 _ ?side1 ?side2 A6.out).mono ?_); (case side1 => repeat (first | exact (Kd.C_below HR0.out HB.out) | (with_reducible refine Kd.C_alloc ?_ _) | (with_reducible refine Kd.C_drewN ?_ _) | (with_reducible refine Kd.C_drew ?_))); (case side2 => exact HC0.out); rintro e w21 ⟨rfl, hb⟩; refine ⟨_, rfl, ?_⟩; have n0_ := Aside0.mk (blk_below (g := gb129) (o := .cells #[.int .u32 a3_0, .int .u32 a3_1] 69 (0, 0)) (by (with_reducible repeat (first | refine blk_drewN ?_ _ | refine blk_drew ?_ | refine blk_alloc ?_ _)); exact BK129.out) hb); have n1_ := Aside0.mk (blk_below (g := gb130) (o := .cells #[.int .u32 0, .int .u32 0] 69 (0, 0)) (by (with_reducible repeat (first | refine blk_drewN ?_ _ | refine blk_drew ?_ | refine blk_alloc ?_ _)); exact BK130.out) hb); have n2_ := Aside0.mk (below_step (by repeat (first | (with_reducible first | exact HB.out | apply below_alloc | apply pw_below_drewN | apply below_drew1 | refine below_set ?_ GE129.out | refine below_set ?_ GE130.out) | exact HB.out)) hb); clear BK129; clear BK130; clear HB; have BK129 := n0_; have BK130 := n1_; have HB := n2_; clear n0_ n1_ n2_; (try clear hb); (try clear hb2); (try clear hk); (try clear hi); have p132 : 0 ≤ (t131 : Int) := of_decide_eq_true (by first | (with_reducible assumption) | assumption); have q132 : t131 < (l0.length : Int) := of_decide_eq_true (by first | (with_reducible assumption) | assumption); obtain ⟨ad132, A132_5, c132_5, e132, hx132_0, hx132_1, hx132_2, hx132_3, hx132_4, hx132_5, hl132_5, hi132_5⟩ := at_T104 HR0.out t131 p132 q132; cases e132; replace hx132_0 := (HB.out.cell (World.block_lt_of_cell? w _ hx132_0)).trans hx132_0; replace hx132_1 := (HB.out.cell (World.block_lt_of_cell? w _ hx132_1)).trans hx132_1; replace hx132_2 := (HB.out.cell (World.block_lt_of_cell? w _ hx132_2)).trans hx132_2; replace hx132_3 := (HB.out.cell (World.block_lt_of_cell? w _ hx132_3)).trans hx132_3; replace hx132_4 := (HB.out.cell (World.block_lt_of_cell? w _ hx132_4)).trans hx132_4; replace hx132_5 := (HB.out.cell (World.block_lt_of_cell? w _ hx132_5)).trans hx132_5; have HR132_5 := Aside0.mk hi132_5; have HC132_5 := Aside0.mk hl132_5; clear hi132_5 hl132_5; replace p132 := eq_true p132; replace q132 := eq_true q132))
          go_loopg [14, 15] k (fun kq v14 v15 w' => ∃ (x14_1 : List Int) (x15_1 : Int), v15 = .int .i64 x15_1 ∧ Aside0 (rivuletref8_Do.l0 kq l0 l1 a4 t131 x14_1 x15_1 a3_0 a3_1 = some (r1, r2, r3, r4)) ∧ Aside0 (kq ≤ k) ∧ Aside0 (Kd.R (Kd.int .i64) 3 w' w.heap.size (fun _ => True) v14 x14_1) ∧ Aside0 (w'.heap[gb129]? = some (.cells #[.int .u32 a3_0, .int .u32 a3_1] 69 (0, 0))) ∧ Aside0 (w'.heap[gb130]? = some (.cells #[.int .u32 0, .int .u32 0] 69 (0, 0))) ∧ Aside0 (Below w.heap.size w w'))
          case atStart => exact ⟨(([] : List Int)), (0), (by first | rfl | (simp; done) | (simp [*]; done)), H', ⟨Nat.le_refl _⟩, ⟨by first | exact Kd.R_nil _ _ _ _ _ | exact Kd.N_nil _ _ _ _ _ | exact Kd.V_nil _ _ _ _ _ | exact Kd.Q_nil _ _ _ _ _ | exact Kd.S_nil _ _ _ _ _⟩, ⟨by (with_reducible repeat (first | refine blk_drewN ?_ _ | refine blk_drew ?_ | refine blk_alloc ?_ _)); exact BK129.out⟩, ⟨by (with_reducible repeat (first | refine blk_drewN ?_ _ | refine blk_drew ?_ | refine blk_alloc ?_ _)); exact BK130.out⟩, ⟨by repeat (first | (with_reducible first | exact HB.out | apply below_alloc | apply pw_below_drewN | apply below_drew1 | refine below_set ?_ GE129.out | refine below_set ?_ GE130.out) | exact HB.out)⟩⟩
          case round =>
            clear H'
            try clear c1
            try clear p1
            try clear q1
            try clear hx1
            try clear p2
            try clear c4
            try clear c7
            try clear c7b0
            try clear c10
            try clear c13
            try clear p13
            try clear q13
            try clear hx13
            try clear c14
            try clear c14b0
            try clear c15
            try clear c15b0
            try clear c16
            try clear c16b0
            try clear c16b1
            try clear c19
            try clear hcz11_0
            try clear hcz11_1
            try clear hcz13_0
            try clear hcz13_1
            try clear hcz20_0
            try clear hcz20_1
            try clear hfz11_0
            try clear hfz11_1
            try clear hfz13_0
            try clear hfz13_1
            try clear hfz20_0
            try clear hfz20_1
            try clear hx132_0
            try clear hx132_1
            try clear hx132_2
            try clear hx132_3
            try clear hx132_4
            try clear hx132_5
            try clear p132
            try clear q132
            obtain ⟨x14_1, x15_1, rfl, HA, HK1, HO_14, BK129, BK130, HB⟩ := hrel
            cases gk with
            | zero => exact absurd HA.out (by simp [rivuletref8_Do.l0])
            | succ k1 =>
              have H := HA.out
              clear HA
              simp only [rivuletref8_Do.l0] at H
              by_cases c22 : 0 ≤ t131
              · rw [if_pos c22] at H
                have c22b0 : decide (0 ≤ t131) = true := decide_eq_true c22
                clear c22
                by_cases c23 : t131 < (l0.length : Int)
                · rw [if_pos c23] at H
                  have c23b0 : decide (t131 < (l0.length : Int)) = true := decide_eq_true c23
                  clear c23
                  by_cases c24 : x15_1 < (((rd_T104 l0 t131).f4).length : Int)
                  · rw [if_pos c24] at H
                    have c24b0 : decide (x15_1 < (((rd_T104 l0 t131).f4).length : Int)) = true := decide_eq_true c24
                    clear c24
                    by_cases c25 : 0 ≤ x15_1
                    · rw [if_pos c25] at H
                      have c25b0 : decide (0 ≤ x15_1) = true := decide_eq_true c25
                      clear c25
                      by_cases c26 : (rd ((rd_T104 l0 t131).f4) x15_1) = a4
                      · rw [if_pos c26] at H
                        have c26b0 : ((rd ((rd_T104 l0 t131).f4) x15_1) == a4) = true := beq_iff_eq.mpr c26
                        have c26b1 : ((rd ((rd_T104 l0 t131).f4) x15_1) != a4) = false := bne_eq_false_iff_eq.mpr c26
                        clear c26
                        have H' := Aside0.mk H
                        clear H
                        have p134 : 0 ≤ (t131 : Int) := of_decide_eq_true (by first | (with_reducible assumption) | assumption)
                        have q134 : t131 < (l0.length : Int) := of_decide_eq_true (by first | (with_reducible assumption) | assumption)
                        obtain ⟨ad134, A134_5, c134_5, e134, hx134_0, hx134_1, hx134_2, hx134_3, hx134_4, hx134_5, hl134_5, hi134_5⟩ := at_T104 HR0.out t131 p134 q134
                        obtain rfl : ad132 = ad134 := (by injection e134)
                        replace hx134_0 := (HB.out.cell (World.block_lt_of_cell? w _ hx134_0)).trans hx134_0
                        replace hx134_1 := (HB.out.cell (World.block_lt_of_cell? w _ hx134_1)).trans hx134_1
                        replace hx134_2 := (HB.out.cell (World.block_lt_of_cell? w _ hx134_2)).trans hx134_2
                        replace hx134_3 := (HB.out.cell (World.block_lt_of_cell? w _ hx134_3)).trans hx134_3
                        replace hx134_4 := (HB.out.cell (World.block_lt_of_cell? w _ hx134_4)).trans hx134_4
                        replace hx134_5 := (HB.out.cell (World.block_lt_of_cell? w _ hx134_5)).trans hx134_5
                        have HR134_5 := Aside0.mk hi134_5
                        have HC134_5 := Aside0.mk hl134_5
                        clear hi134_5 hl134_5
                        replace p134 := eq_true p134
                        replace q134 := eq_true q134
                        have p135 : 0 ≤ (t131 : Int) := of_decide_eq_true (by first | (with_reducible assumption) | assumption)
                        have q135 : t131 < (l0.length : Int) := of_decide_eq_true (by first | (with_reducible assumption) | assumption)
                        obtain ⟨ad135, A135_5, c135_5, e135, hx135_0, hx135_1, hx135_2, hx135_3, hx135_4, hx135_5, hl135_5, hi135_5⟩ := at_T104 HR0.out t131 p135 q135
                        obtain rfl : ad132 = ad135 := (by injection e135)
                        replace hx135_0 := (HB.out.cell (World.block_lt_of_cell? w _ hx135_0)).trans hx135_0
                        replace hx135_1 := (HB.out.cell (World.block_lt_of_cell? w _ hx135_1)).trans hx135_1
                        replace hx135_2 := (HB.out.cell (World.block_lt_of_cell? w _ hx135_2)).trans hx135_2
                        replace hx135_3 := (HB.out.cell (World.block_lt_of_cell? w _ hx135_3)).trans hx135_3
                        replace hx135_4 := (HB.out.cell (World.block_lt_of_cell? w _ hx135_4)).trans hx135_4
                        replace hx135_5 := (HB.out.cell (World.block_lt_of_cell? w _ hx135_5)).trans hx135_5
                        have HR135_5 := Aside0.mk hi135_5
                        have HC135_5 := Aside0.mk hl135_5
                        clear hi135_5 hl135_5
                        replace p135 := eq_true p135
                        replace q135 := eq_true q135
                        have ea_ := Option.some.inj (hx134_5.symm.trans hx135_5)
                        injection ea_ with ea_ en_ ec_
                        subst ea_
                        subst ec_
                        clear en_
                        have p136 : 0 ≤ (x15_1 : Int) := of_decide_eq_true (by first | (with_reducible assumption) | assumption)
                        have q136 : x15_1 < (((rd_T104 l0 t131).f4).length : Int) := of_decide_eq_true (by first | (with_reducible assumption) | assumption)
                        obtain ⟨ad136, e136, hx136_0⟩ := Kd.at_int HR135_5.out x15_1 p136 q136
                        cases e136
                        replace hx136_0 := (HB.out.cell (World.block_lt_of_cell? w _ hx136_0)).trans hx136_0
                        replace p136 := eq_true p136
                        replace q136 := eq_true q136
                        go_wp2
                        go_roundg k1
                        case measure => have := HK1.out; omega
                        case rel => exact ⟨(x14_1), (wrap64 (x15_1 + 1)), (by first | rfl | (simp; done) | (simp [*]; done)), H', ⟨by have := HK1.out; omega⟩, ⟨by (with_reducible repeat (first | apply Kd.R_alloc | apply Kd.R_drewN | apply Kd.R_drew)); exact HO_14.out⟩, ⟨by (with_reducible repeat (first | refine blk_drewN ?_ _ | refine blk_drew ?_ | refine blk_alloc ?_ _)); exact BK129.out⟩, ⟨by (with_reducible repeat (first | refine blk_drewN ?_ _ | refine blk_drew ?_ | refine blk_alloc ?_ _)); exact BK130.out⟩, ⟨by repeat (first | (with_reducible first | exact HB.out | apply below_alloc | apply pw_below_drewN | apply below_drew1 | refine below_set ?_ GE129.out | refine below_set ?_ GE130.out) | exact HB.out)⟩⟩
                      · rw [if_neg c26] at H
                        have c26b0 : ((rd ((rd_T104 l0 t131).f4) x15_1) == a4) = false := beq_eq_false_iff_ne.mpr c26
                        have c26b1 : ((rd ((rd_T104 l0 t131).f4) x15_1) != a4) = true := bne_iff_ne.mpr c26
                        replace H := Option.bind_eq_some_iff.mp H
                        obtain ⟨t137, A270, H⟩ := H
                        replace H : (if t137 = true then (rivuletref8_Do.l0 k1 l0 l1 a4 t131 x14_1 (wrap64 (x15_1 + 1)) a3_0 a3_1) else (if x14_1.length < 17592186044416 then (rivuletref8_Do.l0 k1 l0 l1 a4 t131 (x14_1 ++ [rd ((rd_T104 l0 t131).f4) x15_1]) (wrap64 (x15_1 + 1)) a3_0 a3_1) else (none))) = some (r1, r2, r3, r4) := H
                        have A27 := Aside0.mk A270
                        clear A270
                        by_cases c28 : t137 = true
                        · subst c28
                          have H1 : (rivuletref8_Do.l0 k1 l0 l1 a4 t131 x14_1 (wrap64 (x15_1 + 1)) a3_0 a3_1) = some (r1, r2, r3, r4) := by rw [if_pos rfl] at H; exact H
                          clear H
                          have H := H1
                          clear H1
                          have H' := Aside0.mk H
                          clear H
                          have p134 : 0 ≤ (t131 : Int) := of_decide_eq_true (by first | (with_reducible assumption) | assumption)
                          have q134 : t131 < (l0.length : Int) := of_decide_eq_true (by first | (with_reducible assumption) | assumption)
                          obtain ⟨ad134, A134_5, c134_5, e134, hx134_0, hx134_1, hx134_2, hx134_3, hx134_4, hx134_5, hl134_5, hi134_5⟩ := at_T104 HR0.out t131 p134 q134
                          obtain rfl : ad132 = ad134 := (by injection e134)
                          replace hx134_0 := (HB.out.cell (World.block_lt_of_cell? w _ hx134_0)).trans hx134_0
                          replace hx134_1 := (HB.out.cell (World.block_lt_of_cell? w _ hx134_1)).trans hx134_1
                          replace hx134_2 := (HB.out.cell (World.block_lt_of_cell? w _ hx134_2)).trans hx134_2
                          replace hx134_3 := (HB.out.cell (World.block_lt_of_cell? w _ hx134_3)).trans hx134_3
                          replace hx134_4 := (HB.out.cell (World.block_lt_of_cell? w _ hx134_4)).trans hx134_4
                          replace hx134_5 := (HB.out.cell (World.block_lt_of_cell? w _ hx134_5)).trans hx134_5
                          have HR134_5 := Aside0.mk hi134_5
                          have HC134_5 := Aside0.mk hl134_5
                          clear hi134_5 hl134_5
                          replace p134 := eq_true p134
                          replace q134 := eq_true q134
                          have p135 : 0 ≤ (t131 : Int) := of_decide_eq_true (by first | (with_reducible assumption) | assumption)
                          have q135 : t131 < (l0.length : Int) := of_decide_eq_true (by first | (with_reducible assumption) | assumption)
                          obtain ⟨ad135, A135_5, c135_5, e135, hx135_0, hx135_1, hx135_2, hx135_3, hx135_4, hx135_5, hl135_5, hi135_5⟩ := at_T104 HR0.out t131 p135 q135
                          obtain rfl : ad132 = ad135 := (by injection e135)
                          replace hx135_0 := (HB.out.cell (World.block_lt_of_cell? w _ hx135_0)).trans hx135_0
                          replace hx135_1 := (HB.out.cell (World.block_lt_of_cell? w _ hx135_1)).trans hx135_1
                          replace hx135_2 := (HB.out.cell (World.block_lt_of_cell? w _ hx135_2)).trans hx135_2
                          replace hx135_3 := (HB.out.cell (World.block_lt_of_cell? w _ hx135_3)).trans hx135_3
                          replace hx135_4 := (HB.out.cell (World.block_lt_of_cell? w _ hx135_4)).trans hx135_4
                          replace hx135_5 := (HB.out.cell (World.block_lt_of_cell? w _ hx135_5)).trans hx135_5
                          have HR135_5 := Aside0.mk hi135_5
                          have HC135_5 := Aside0.mk hl135_5
                          clear hi135_5 hl135_5
                          replace p135 := eq_true p135
                          replace q135 := eq_true q135
                          have ea_ := Option.some.inj (hx134_5.symm.trans hx135_5)
                          injection ea_ with ea_ en_ ec_
                          subst ea_
                          subst ec_
                          clear en_
                          have p136 : 0 ≤ (x15_1 : Int) := of_decide_eq_true (by first | (with_reducible assumption) | assumption)
                          have q136 : x15_1 < (((rd_T104 l0 t131).f4).length : Int) := of_decide_eq_true (by first | (with_reducible assumption) | assumption)
                          obtain ⟨ad136, e136, hx136_0⟩ := Kd.at_int HR135_5.out x15_1 p136 q136
                          cases e136
                          replace hx136_0 := (HB.out.cell (World.block_lt_of_cell? w _ hx136_0)).trans hx136_0
                          replace p136 := eq_true p136
                          replace q136 := eq_true q136
                          have hnb29 := NB129_130.out
                          have hnc29 := NB130_129.out
                          have hcz30_0 : wr.cell? ⟨gb129, 0, none⟩ = some (.int .u32 a3_0) := (blk_cell BK129.out 0).trans rfl
                          have hcz30_1 : wr.cell? ⟨gb129, 1, none⟩ = some (.int .u32 a3_1) := (blk_cell BK129.out 1).trans rfl
                          have hfz30_0 := blk_frozen BK129.out 0
                          have hfz30_1 := blk_frozen BK129.out 1
                          go_wp2_with (first | (go_at_call 57; (with_reducible refine (rivuletref8_IsLost.calls k1 _ _ l1 (rd ((rd_T104 l0 t131).f4) x15_1) a3_0 a3_1 true _ ?side1 ?side2 A27.out).mono ?_); (case side1 => repeat (first | exact (Kd.C_below HR1.out HB.out) | (with_reducible refine Kd.C_alloc ?_ _) | (with_reducible refine Kd.C_drewN ?_ _) | (with_reducible refine Kd.C_drew ?_))); (case side2 => exact HC1.out); rintro e w31 ⟨rfl, hb⟩; have n0_ := Aside0.mk (Kd.R_below (by (with_reducible repeat (first | apply Kd.R_alloc | apply Kd.R_drewN | apply Kd.R_drew)); exact HO_14.out) hb); have n1_ := Aside0.mk (blk_below (g := gb129) (o := .cells #[.int .u32 a3_0, .int .u32 a3_1] 69 (0, 0)) (by (with_reducible repeat (first | refine blk_drewN ?_ _ | refine blk_drew ?_ | refine blk_alloc ?_ _)); exact BK129.out) hb); have n2_ := Aside0.mk (blk_below (g := gb130) (o := .cells #[.int .u32 0, .int .u32 0] 69 (0, 0)) (by (with_reducible repeat (first | refine blk_drewN ?_ _ | refine blk_drew ?_ | refine blk_alloc ?_ _)); exact BK130.out) hb); have n3_ := Aside0.mk (below_step (by repeat (first | (with_reducible first | exact HB.out | apply below_alloc | apply pw_below_drewN | apply below_drew1 | refine below_set ?_ GE129.out | refine below_set ?_ GE130.out) | exact HB.out)) hb); clear HO_14; clear BK129; clear BK130; clear HB; have HO_14 := n0_; have BK129 := n1_; have BK130 := n2_; have HB := n3_; clear n0_ n1_ n2_ n3_; (try clear hb); (try clear hb2); (try clear hk); (try clear hi)))
                          go_roundg k1
                          case measure => have := HK1.out; omega
                          case rel => exact ⟨(x14_1), (wrap64 (x15_1 + 1)), (by first | rfl | (simp; done) | (simp [*]; done)), H', ⟨by have := HK1.out; omega⟩, ⟨by (with_reducible repeat (first | apply Kd.R_alloc | apply Kd.R_drewN | apply Kd.R_drew)); exact HO_14.out⟩, ⟨by (with_reducible repeat (first | refine blk_drewN ?_ _ | refine blk_drew ?_ | refine blk_alloc ?_ _)); exact BK129.out⟩, ⟨by (with_reducible repeat (first | refine blk_drewN ?_ _ | refine blk_drew ?_ | refine blk_alloc ?_ _)); exact BK130.out⟩, ⟨by repeat (first | (with_reducible first | exact HB.out | apply below_alloc | apply pw_below_drewN | apply below_drew1 | refine below_set ?_ GE129.out | refine below_set ?_ GE130.out) | exact HB.out)⟩⟩
                        · replace c28 := Bool.eq_false_iff.mpr c28
                          subst c28
                          have H1 : (if x14_1.length < 17592186044416 then (rivuletref8_Do.l0 k1 l0 l1 a4 t131 (x14_1 ++ [rd ((rd_T104 l0 t131).f4) x15_1]) (wrap64 (x15_1 + 1)) a3_0 a3_1) else (none)) = some (r1, r2, r3, r4) := by rw [if_neg (show ¬ (false = true) by decide)] at H; exact H
                          clear H
                          have H := H1
                          clear H1
                          by_cases c32 : x14_1.length < 17592186044416
                          · rw [if_pos c32] at H
                            have LMc32 := Aside0.mk c32
                            clear c32
                            obtain ⟨y138, hy138⟩ : ∃ y_ : List Int, y_ = (x14_1 ++ [rd ((rd_T104 l0 t131).f4) x15_1]) := ⟨_, rfl⟩
                            replace H : (rivuletref8_Do.l0 k1 l0 l1 a4 t131 y138 (wrap64 (x15_1 + 1)) a3_0 a3_1) = some (r1, r2, r3, r4) := by first | (rw [hy138]; with_reducible exact H) | (have H2_ := (Option.bind_some _ _).symm.trans H; rw [hy138]; with_reducible exact H2_) | (have H2_ := (Option.bind_some _ _).symm.trans H; with_reducible exact H2_) | with_reducible exact H | (rw [hy138]; exact H) | exact H
                            have Ny138 := Aside0.mk hy138
                            clear hy138
                            have H' := Aside0.mk H
                            clear H
                            have p134 : 0 ≤ (t131 : Int) := of_decide_eq_true (by first | (with_reducible assumption) | assumption)
                            have q134 : t131 < (l0.length : Int) := of_decide_eq_true (by first | (with_reducible assumption) | assumption)
                            obtain ⟨ad134, A134_5, c134_5, e134, hx134_0, hx134_1, hx134_2, hx134_3, hx134_4, hx134_5, hl134_5, hi134_5⟩ := at_T104 HR0.out t131 p134 q134
                            obtain rfl : ad132 = ad134 := (by injection e134)
                            replace hx134_0 := (HB.out.cell (World.block_lt_of_cell? w _ hx134_0)).trans hx134_0
                            replace hx134_1 := (HB.out.cell (World.block_lt_of_cell? w _ hx134_1)).trans hx134_1
                            replace hx134_2 := (HB.out.cell (World.block_lt_of_cell? w _ hx134_2)).trans hx134_2
                            replace hx134_3 := (HB.out.cell (World.block_lt_of_cell? w _ hx134_3)).trans hx134_3
                            replace hx134_4 := (HB.out.cell (World.block_lt_of_cell? w _ hx134_4)).trans hx134_4
                            replace hx134_5 := (HB.out.cell (World.block_lt_of_cell? w _ hx134_5)).trans hx134_5
                            have HR134_5 := Aside0.mk hi134_5
                            have HC134_5 := Aside0.mk hl134_5
                            clear hi134_5 hl134_5
                            replace p134 := eq_true p134
                            replace q134 := eq_true q134
                            have p135 : 0 ≤ (t131 : Int) := of_decide_eq_true (by first | (with_reducible assumption) | assumption)
                            have q135 : t131 < (l0.length : Int) := of_decide_eq_true (by first | (with_reducible assumption) | assumption)
                            obtain ⟨ad135, A135_5, c135_5, e135, hx135_0, hx135_1, hx135_2, hx135_3, hx135_4, hx135_5, hl135_5, hi135_5⟩ := at_T104 HR0.out t131 p135 q135
                            obtain rfl : ad132 = ad135 := (by injection e135)
                            replace hx135_0 := (HB.out.cell (World.block_lt_of_cell? w _ hx135_0)).trans hx135_0
                            replace hx135_1 := (HB.out.cell (World.block_lt_of_cell? w _ hx135_1)).trans hx135_1
                            replace hx135_2 := (HB.out.cell (World.block_lt_of_cell? w _ hx135_2)).trans hx135_2
                            replace hx135_3 := (HB.out.cell (World.block_lt_of_cell? w _ hx135_3)).trans hx135_3
                            replace hx135_4 := (HB.out.cell (World.block_lt_of_cell? w _ hx135_4)).trans hx135_4
                            replace hx135_5 := (HB.out.cell (World.block_lt_of_cell? w _ hx135_5)).trans hx135_5
                            have HR135_5 := Aside0.mk hi135_5
                            have HC135_5 := Aside0.mk hl135_5
                            clear hi135_5 hl135_5
                            replace p135 := eq_true p135
                            replace q135 := eq_true q135
                            have ea_ := Option.some.inj (hx134_5.symm.trans hx135_5)
                            injection ea_ with ea_ en_ ec_
                            subst ea_
                            subst ec_
                            clear en_
                            have p136 : 0 ≤ (x15_1 : Int) := of_decide_eq_true (by first | (with_reducible assumption) | assumption)
                            have q136 : x15_1 < (((rd_T104 l0 t131).f4).length : Int) := of_decide_eq_true (by first | (with_reducible assumption) | assumption)
                            obtain ⟨ad136, e136, hx136_0⟩ := Kd.at_int HR135_5.out x15_1 p136 q136
                            cases e136
                            replace hx136_0 := (HB.out.cell (World.block_lt_of_cell? w _ hx136_0)).trans hx136_0
                            replace p136 := eq_true p136
                            replace q136 := eq_true q136
                            have hnb33 := NB129_130.out
                            have hnc33 := NB130_129.out
                            have hcz34_0 : wr.cell? ⟨gb129, 0, none⟩ = some (.int .u32 a3_0) := (blk_cell BK129.out 0).trans rfl
                            have hcz34_1 : wr.cell? ⟨gb129, 1, none⟩ = some (.int .u32 a3_1) := (blk_cell BK129.out 1).trans rfl
                            have hfz34_0 := blk_frozen BK129.out 0
                            have hfz34_1 := blk_frozen BK129.out 1
                            go_wp2_with (first | (go_at_call 57; (with_reducible refine (rivuletref8_IsLost.calls k1 _ _ l1 (rd ((rd_T104 l0 t131).f4) x15_1) a3_0 a3_1 false _ ?side1 ?side2 A27.out).mono ?_); (case side1 => repeat (first | exact (Kd.C_below HR1.out HB.out) | (with_reducible refine Kd.C_alloc ?_ _) | (with_reducible refine Kd.C_drewN ?_ _) | (with_reducible refine Kd.C_drew ?_))); (case side2 => exact HC1.out); rintro e w35 ⟨rfl, hb⟩; have n0_ := Aside0.mk (Kd.R_below (by (with_reducible repeat (first | apply Kd.R_alloc | apply Kd.R_drewN | apply Kd.R_drew)); exact HO_14.out) hb); have n1_ := Aside0.mk (blk_below (g := gb129) (o := .cells #[.int .u32 a3_0, .int .u32 a3_1] 69 (0, 0)) (by (with_reducible repeat (first | refine blk_drewN ?_ _ | refine blk_drew ?_ | refine blk_alloc ?_ _)); exact BK129.out) hb); have n2_ := Aside0.mk (blk_below (g := gb130) (o := .cells #[.int .u32 0, .int .u32 0] 69 (0, 0)) (by (with_reducible repeat (first | refine blk_drewN ?_ _ | refine blk_drew ?_ | refine blk_alloc ?_ _)); exact BK130.out) hb); have n3_ := Aside0.mk (below_step (by repeat (first | (with_reducible first | exact HB.out | apply below_alloc | apply pw_below_drewN | apply below_drew1 | refine below_set ?_ GE129.out | refine below_set ?_ GE130.out) | exact HB.out)) hb); clear HO_14; clear BK129; clear BK130; clear HB; have HO_14 := n0_; have BK129 := n1_; have BK130 := n2_; have HB := n3_; clear n0_ n1_ n2_ n3_; (try clear hb); (try clear hb2); (try clear hk); (try clear hi)) | ((with_reducible refine gate_builtin (b := .append) (xs := #[.tmp 64, .tmp 66]) rfl ?_); at_builtin; refine Kd.R_append (Kd.int .i64) (w0 := w) w.heap.size rfl (.tmp 64) (.tmp 66) 73 3 (.int .i64 0) 8 rfl Try.underlying73 info3 rfl (by decide) (by omega) u14 x14_1 (rd ((rd_T104 l0 t131).f4) x15_1) [.int .i64 (rd ((rd_T104 l0 t131).f4) x15_1)] (fun _ => True) (fun _ => False) rfl rfl ?aP (fun _ hk => hk.elim) ?aF ?aO ?aB ?aS ?aL ?_; (case aP => exact rfl); (case aB => exact (by repeat (first | (with_reducible first | exact HB.out | apply below_alloc | apply pw_below_drewN | apply below_drew1 | refine below_set ?_ GE129.out | refine below_set ?_ GE130.out) | exact HB.out))); (case aF => exact (fun _ _ => trivial)); (case aO => exact (by (with_reducible repeat (first | apply Kd.R_alloc | apply Kd.R_drewN | apply Kd.R_drew)); exact HO_14.out)); (case aS => exact (below_size (by repeat (first | (with_reducible first | exact HB.out | apply below_alloc | apply pw_below_drewN | apply below_drew1 | refine below_set ?_ GE129.out | refine below_set ?_ GE130.out) | exact HB.out)))); (case aL => have := LMc32.out; omega); intro v139 w36 ho hb hg hat; rw [← Ny138.out] at ho; have n0_ := Aside0.mk (blk_grown (g := gb129) (o := .cells #[.int .u32 a3_0, .int .u32 a3_1] 69 (0, 0)) (by (with_reducible repeat (first | refine blk_drewN ?_ _ | refine blk_drew ?_ | refine blk_alloc ?_ _)); exact BK129.out) hg (Kd.R_ne HO_14.out BK129.out (by decide))); have n1_ := Aside0.mk (blk_grown (g := gb130) (o := .cells #[.int .u32 0, .int .u32 0] 69 (0, 0)) (by (with_reducible repeat (first | refine blk_drewN ?_ _ | refine blk_drew ?_ | refine blk_alloc ?_ _)); exact BK130.out) hg (Kd.R_ne HO_14.out BK130.out (by decide))); have n2_ := Aside0.mk (hb); have n3_ := Aside0.mk (ho); clear BK129; clear BK130; clear HB; clear HO_14; have BK129 := n0_; have BK130 := n1_; have HB := n2_; have HO140 := n3_; clear n0_ n1_ n2_ n3_; clear ho hb hg hat))
                            go_roundg k1
                            case measure => have := HK1.out; omega
                            case rel => exact ⟨(y138), (wrap64 (x15_1 + 1)), (by first | rfl | (simp; done) | (simp [*]; done)), H', ⟨by have := HK1.out; omega⟩, ⟨by (with_reducible repeat (first | apply Kd.R_alloc | apply Kd.R_drewN | apply Kd.R_drew)); exact HO140.out⟩, ⟨by (with_reducible repeat (first | refine blk_drewN ?_ _ | refine blk_drew ?_ | refine blk_alloc ?_ _)); exact BK129.out⟩, ⟨by (with_reducible repeat (first | refine blk_drewN ?_ _ | refine blk_drew ?_ | refine blk_alloc ?_ _)); exact BK130.out⟩, ⟨by repeat (first | (with_reducible first | exact HB.out | apply below_alloc | apply pw_below_drewN | apply below_drew1 | refine below_set ?_ GE129.out | refine below_set ?_ GE130.out) | exact HB.out)⟩⟩
                          · rw [if_neg c32] at H
                            exact absurd H (by simp)
                    · rw [if_neg c25] at H
                      exact absurd H (by simp)
                  · rw [if_neg c24] at H
                    have c24b0 : decide (x15_1 < (((rd_T104 l0 t131).f4).length : Int)) = false := decide_eq_false c24
                    clear c24
                    simp only [Option.some.injEq, Prod.mk.injEq] at H
                    obtain ⟨rfl, rfl, rfl, rfl⟩ := H
                    have p134 : 0 ≤ (t131 : Int) := of_decide_eq_true (by first | (with_reducible assumption) | assumption)
                    have q134 : t131 < (l0.length : Int) := of_decide_eq_true (by first | (with_reducible assumption) | assumption)
                    obtain ⟨ad134, A134_5, c134_5, e134, hx134_0, hx134_1, hx134_2, hx134_3, hx134_4, hx134_5, hl134_5, hi134_5⟩ := at_T104 HR0.out t131 p134 q134
                    obtain rfl : ad132 = ad134 := (by injection e134)
                    replace hx134_0 := (HB.out.cell (World.block_lt_of_cell? w _ hx134_0)).trans hx134_0
                    replace hx134_1 := (HB.out.cell (World.block_lt_of_cell? w _ hx134_1)).trans hx134_1
                    replace hx134_2 := (HB.out.cell (World.block_lt_of_cell? w _ hx134_2)).trans hx134_2
                    replace hx134_3 := (HB.out.cell (World.block_lt_of_cell? w _ hx134_3)).trans hx134_3
                    replace hx134_4 := (HB.out.cell (World.block_lt_of_cell? w _ hx134_4)).trans hx134_4
                    replace hx134_5 := (HB.out.cell (World.block_lt_of_cell? w _ hx134_5)).trans hx134_5
                    have HR134_5 := Aside0.mk hi134_5
                    have HC134_5 := Aside0.mk hl134_5
                    clear hi134_5 hl134_5
                    replace p134 := eq_true p134
                    replace q134 := eq_true q134
                    try go_wp2
                    have n0_ := Aside0.mk (Kd.R_drew HO_14.out)
                    have n1_ := Aside0.mk (blk_drew BK129.out)
                    have n2_ := Aside0.mk (blk_drew BK130.out)
                    have n3_ := Aside0.mk (below_drew1 HB.out)
                    clear HO_14
                    clear BK129
                    clear BK130
                    clear HB
                    have HO_14 := n0_
                    have BK129 := n1_
                    have BK130 := n2_
                    have HB := n3_
                    clear n0_ n1_ n2_ n3_
                    have p141 : 0 ≤ (t131 : Int) := of_decide_eq_true (by first | (with_reducible assumption) | assumption)
                    have q141 : t131 < (l0.length : Int) := of_decide_eq_true (by first | (with_reducible assumption) | assumption)
                    obtain ⟨ad141, A141_5, c141_5, e141, hx141_0, hx141_1, hx141_2, hx141_3, hx141_4, hx141_5, hl141_5, hi141_5⟩ := at_T104 HR0.out t131 p141 q141
                    have hw141_5 := hx141_5
                    have hw141_4 := hx141_4
                    have hw141_3 := hx141_3
                    have hw141_2 := hx141_2
                    have hw141_1 := hx141_1
                    have hw141_0 := hx141_0
                    obtain rfl : ad132 = ad141 := (by injection e141)
                    replace hx141_0 := (HB.out.cell (World.block_lt_of_cell? w _ hx141_0)).trans hx141_0
                    replace hx141_1 := (HB.out.cell (World.block_lt_of_cell? w _ hx141_1)).trans hx141_1
                    replace hx141_2 := (HB.out.cell (World.block_lt_of_cell? w _ hx141_2)).trans hx141_2
                    replace hx141_3 := (HB.out.cell (World.block_lt_of_cell? w _ hx141_3)).trans hx141_3
                    replace hx141_4 := (HB.out.cell (World.block_lt_of_cell? w _ hx141_4)).trans hx141_4
                    replace hx141_5 := (HB.out.cell (World.block_lt_of_cell? w _ hx141_5)).trans hx141_5
                    have HR141_5 := Aside0.mk hi141_5
                    have HC141_5 := Aside0.mk hl141_5
                    clear hi141_5 hl141_5
                    replace p141 := eq_true p141
                    replace q141 := eq_true q141
                    refine start_ (n := 9) (S := fun w' => w'.cell? (ad132.add ((t131).toNat * 6)) = some (.int .i64 ((rd_T104 l0 t131).f0)) ∧ w'.cell? ⟨(ad132.add ((t131).toNat * 6)).block, (ad132.add ((t131).toNat * 6)).off + 1, none⟩ = some (.int .i64 ((rd_T104 l0 t131).f1)) ∧ w'.cell? ⟨(ad132.add ((t131).toNat * 6)).block, (ad132.add ((t131).toNat * 6)).off + 2, none⟩ = some (.int .i64 ((rd_T104 l0 t131).f2)) ∧ w'.cell? ⟨(ad132.add ((t131).toNat * 6)).block, (ad132.add ((t131).toNat * 6)).off + 3, none⟩ = some (.int .u32 ((rd_T104 l0 t131).f3.f0)) ∧ w'.cell? ⟨(ad132.add ((t131).toNat * 6)).block, (ad132.add ((t131).toNat * 6)).off + 4, none⟩ = some (.int .u32 ((rd_T104 l0 t131).f3.f1)) ∧ w'.cell? ⟨(ad132.add ((t131).toNat * 6)).block, (ad132.add ((t131).toNat * 6)).off + 5, none⟩ = some (.slice A141_5 ((rd_T104 l0 t131).f4).length c141_5)) (ds := []) #[false, false, false, false, false, false, false, false, false] (by kernel_rfl) rfl rfl ⟨((HB.out.cell (World.block_lt_of_cell? w _ hw141_0)).trans hw141_0), ((HB.out.cell (World.block_lt_of_cell? w _ hw141_1)).trans hw141_1), ((HB.out.cell (World.block_lt_of_cell? w _ hw141_2)).trans hw141_2), ((HB.out.cell (World.block_lt_of_cell? w _ hw141_3)).trans hw141_3), ((HB.out.cell (World.block_lt_of_cell? w _ hw141_4)).trans hw141_4), ((HB.out.cell (World.block_lt_of_cell? w _ hw141_5)).trans hw141_5)⟩ (fun hHeld => ?_); refine with_tabW rivuletref8_Do.tab13 rivuletref8_Do.bits13 (fun HT_ HW_ => ?_)
                    generalize wr.drew = w37 at HO_14 BK129 BK130 HB HR141_5 hx141_0 hx141_1 hx141_2 hx141_3 hx141_4 hx141_5 hHeld ⊢
                    refine pure_ (i := 0) (N := some 68) (v := ?_) (a' := ?_) #[true, false, false, false, false, false, false, false, false] rfl rfl (any_of HT_.out (by kernel_rfl)) (fun _ _ _ h => h) (Or.inl ⟨by rfl, ?_⟩) ?_ ?_
                    rotate_left
                    · intro w'
                      go_simp
                      with_reducible rfl
                    rotate_left
                    · simp only [Act.put, List.setIfInBounds_toArray, List.set_cons_zero, List.set_cons_succ, i64_w, i32_w]
                      rfl
                    refine pure_ (i := 1) (N := some 69) (v := ?_) (a' := ?_) #[true, true, false, false, false, false, false, false, false] rfl rfl (any_of HT_.out (by kernel_rfl)) (fun _ _ _ h => h) (Or.inl ⟨by rfl, ?_⟩) ?_ ?_
                    rotate_left
                    · intro w'
                      go_simp
                      with_reducible rfl
                    rotate_left
                    · simp only [Act.put, List.setIfInBounds_toArray, List.set_cons_zero, List.set_cons_succ, i64_w, i32_w]
                      rfl
                    refine pure_ (i := 2) (N := some 70) (v := ?_) (a' := ?_) #[true, true, true, false, false, false, false, false, false] rfl rfl (any_of HT_.out (by kernel_rfl)) (fun _ _ _ h => h) (Or.inl ⟨by rfl, ?_⟩) ?_ ?_
                    rotate_left
                    · intro w'
                      go_simp
                      with_reducible rfl
                    rotate_left
                    · simp only [Act.put, List.setIfInBounds_toArray, List.set_cons_zero, List.set_cons_succ, i64_w, i32_w]
                      rfl
                    refine pure_ (i := 3) (N := some 71) (v := ?_) (a' := ?_) #[true, true, true, true, false, false, false, false, false] rfl rfl (any_of HT_.out (by kernel_rfl)) (fun _ _ _ h => h) (Or.inl ⟨by rfl, ?_⟩) ?_ ?_
                    rotate_left
                    · intro w'
                      go_simp
                      with_reducible rfl
                    rotate_left
                    · simp only [Act.put, List.setIfInBounds_toArray, List.set_cons_zero, List.set_cons_succ, i64_w, i32_w]
                      rfl
                    refine pure_ (i := 5) (N := some 73) (v := ?_) (a' := ?_) #[true, true, true, true, false, true, false, false, false] rfl rfl (any_of HT_.out (by kernel_rfl)) (fun _ _ _ h => h) (Or.inl ⟨by rfl, ?_⟩) ?_ ?_
                    rotate_left
                    · intro w'
                      go_simp
                      with_reducible rfl
                    rotate_left
                    · simp only [Act.put, List.setIfInBounds_toArray, List.set_cons_zero, List.set_cons_succ, i64_w, i32_w]
                      rfl
                    refine pure_ (i := 6) (N := some 10) (v := ?_) (a' := ?_) #[true, true, true, true, false, true, true, false, false] rfl rfl (any_of HT_.out (by kernel_rfl)) (fun _ _ _ h => h) (Or.inl ⟨by rfl, ?_⟩) ?_ ?_
                    rotate_left
                    · intro w'
                      go_simp
                      with_reducible rfl
                    rotate_left
                    · simp only [Act.put, List.setIfInBounds_toArray, List.set_cons_zero, List.set_cons_succ, i64_w, i32_w]
                      rfl
                    refine take_ (i := 4) (N := some 72) (v := ?_) (a' := ?_) #[true, true, true, true, true, true, true, false, false] rfl rfl (take_ofW HT_.out HW_.out (by kernel_rfl)) (fun _ _ _ h => h) (Or.inl ⟨by rfl, ?_⟩) hHeld ?_ ?_
                    rotate_left
                    · rintro w' ⟨s0, s1, s2, s3, s4, s5⟩
                      go_simp
                      with_reducible rfl
                    rotate_left
                    · simp only [Act.put, List.setIfInBounds_toArray, List.set_cons_zero, List.set_cons_succ, i64_w, i32_w]
                      rfl
                    refine one_ (i := 7) (N := none) #[true, true, true, true, true, true, true, true, false] rfl rfl (one_of HT_.out (by kernel_rfl)) (by decide) (fun K hK => ?_)
                    have hs38 : w37.cell? ⟨gb130, 0, none⟩ = some (.int .u32 0) := (blk_cell BK130.out 0).trans rfl
                    have hfs38 := blk_frozen BK130.out 0
                    have hns38_0 := NB129_130.out
                    have hms38_0 := NB130_129.out
                    have hs39 : w37.cell? ⟨gb130, 1, none⟩ = some (.int .u32 0) := (blk_cell BK130.out 1).trans rfl
                    have hfs39 := blk_frozen BK130.out 1
                    have hns39_0 := NB129_130.out
                    have hms39_0 := NB130_129.out
                    refine skip_ (w1 := ?_) (by rfl) rfl ?_ ?_
                    rotate_left
                    · go_simp
                      rfl
                    refine hK.out _ _ ⟨((cell_far (p := ⟨gb130, _, none⟩) (by first | exact Nat.ne_of_lt (Nat.lt_of_lt_of_le (by have := World.block_lt_of_cell? _ _ hw141_0; first | rwa [add_block] at this | exact this) GW130.out) | (rw [add_block]; exact Nat.ne_of_lt (Nat.lt_of_lt_of_le (by have := World.block_lt_of_cell? _ _ hw141_0; first | rwa [add_block] at this | exact this) GW130.out)) | (show (Addr.add _ _).block ≠ _; rw [add_block]; exact Nat.ne_of_lt (Nat.lt_of_lt_of_le (by have := World.block_lt_of_cell? _ _ hw141_0; first | rwa [add_block] at this | exact this) GW130.out)) | (dsimp only; exact Nat.ne_of_lt (Nat.lt_of_lt_of_le (by have := World.block_lt_of_cell? _ _ hw141_0; first | rwa [add_block] at this | exact this) GW130.out))) _).trans (((cell_far (p := ⟨gb130, _, none⟩) (by first | exact Nat.ne_of_lt (Nat.lt_of_lt_of_le (by have := World.block_lt_of_cell? _ _ hw141_0; first | rwa [add_block] at this | exact this) GW130.out) | (rw [add_block]; exact Nat.ne_of_lt (Nat.lt_of_lt_of_le (by have := World.block_lt_of_cell? _ _ hw141_0; first | rwa [add_block] at this | exact this) GW130.out)) | (show (Addr.add _ _).block ≠ _; rw [add_block]; exact Nat.ne_of_lt (Nat.lt_of_lt_of_le (by have := World.block_lt_of_cell? _ _ hw141_0; first | rwa [add_block] at this | exact this) GW130.out)) | (dsimp only; exact Nat.ne_of_lt (Nat.lt_of_lt_of_le (by have := World.block_lt_of_cell? _ _ hw141_0; first | rwa [add_block] at this | exact this) GW130.out))) _).trans (hHeld.1)))), ((cell_far (p := ⟨gb130, _, none⟩) (by first | exact Nat.ne_of_lt (Nat.lt_of_lt_of_le (by have := World.block_lt_of_cell? _ _ hw141_1; first | rwa [add_block] at this | exact this) GW130.out) | (rw [add_block]; exact Nat.ne_of_lt (Nat.lt_of_lt_of_le (by have := World.block_lt_of_cell? _ _ hw141_1; first | rwa [add_block] at this | exact this) GW130.out)) | (show (Addr.add _ _).block ≠ _; rw [add_block]; exact Nat.ne_of_lt (Nat.lt_of_lt_of_le (by have := World.block_lt_of_cell? _ _ hw141_1; first | rwa [add_block] at this | exact this) GW130.out)) | (dsimp only; exact Nat.ne_of_lt (Nat.lt_of_lt_of_le (by have := World.block_lt_of_cell? _ _ hw141_1; first | rwa [add_block] at this | exact this) GW130.out))) _).trans (((cell_far (p := ⟨gb130, _, none⟩) (by first | exact Nat.ne_of_lt (Nat.lt_of_lt_of_le (by have := World.block_lt_of_cell? _ _ hw141_1; first | rwa [add_block] at this | exact this) GW130.out) | (rw [add_block]; exact Nat.ne_of_lt (Nat.lt_of_lt_of_le (by have := World.block_lt_of_cell? _ _ hw141_1; first | rwa [add_block] at this | exact this) GW130.out)) | (show (Addr.add _ _).block ≠ _; rw [add_block]; exact Nat.ne_of_lt (Nat.lt_of_lt_of_le (by have := World.block_lt_of_cell? _ _ hw141_1; first | rwa [add_block] at this | exact this) GW130.out)) | (dsimp only; exact Nat.ne_of_lt (Nat.lt_of_lt_of_le (by have := World.block_lt_of_cell? _ _ hw141_1; first | rwa [add_block] at this | exact this) GW130.out))) _).trans (hHeld.2.1)))), ((cell_far (p := ⟨gb130, _, none⟩) (by first | exact Nat.ne_of_lt (Nat.lt_of_lt_of_le (by have := World.block_lt_of_cell? _ _ hw141_2; first | rwa [add_block] at this | exact this) GW130.out) | (rw [add_block]; exact Nat.ne_of_lt (Nat.lt_of_lt_of_le (by have := World.block_lt_of_cell? _ _ hw141_2; first | rwa [add_block] at this | exact this) GW130.out)) | (show (Addr.add _ _).block ≠ _; rw [add_block]; exact Nat.ne_of_lt (Nat.lt_of_lt_of_le (by have := World.block_lt_of_cell? _ _ hw141_2; first | rwa [add_block] at this | exact this) GW130.out)) | (dsimp only; exact Nat.ne_of_lt (Nat.lt_of_lt_of_le (by have := World.block_lt_of_cell? _ _ hw141_2; first | rwa [add_block] at this | exact this) GW130.out))) _).trans (((cell_far (p := ⟨gb130, _, none⟩) (by first | exact Nat.ne_of_lt (Nat.lt_of_lt_of_le (by have := World.block_lt_of_cell? _ _ hw141_2; first | rwa [add_block] at this | exact this) GW130.out) | (rw [add_block]; exact Nat.ne_of_lt (Nat.lt_of_lt_of_le (by have := World.block_lt_of_cell? _ _ hw141_2; first | rwa [add_block] at this | exact this) GW130.out)) | (show (Addr.add _ _).block ≠ _; rw [add_block]; exact Nat.ne_of_lt (Nat.lt_of_lt_of_le (by have := World.block_lt_of_cell? _ _ hw141_2; first | rwa [add_block] at this | exact this) GW130.out)) | (dsimp only; exact Nat.ne_of_lt (Nat.lt_of_lt_of_le (by have := World.block_lt_of_cell? _ _ hw141_2; first | rwa [add_block] at this | exact this) GW130.out))) _).trans (hHeld.2.2.1)))), ((cell_far (p := ⟨gb130, _, none⟩) (by first | exact Nat.ne_of_lt (Nat.lt_of_lt_of_le (by have := World.block_lt_of_cell? _ _ hw141_3; first | rwa [add_block] at this | exact this) GW130.out) | (rw [add_block]; exact Nat.ne_of_lt (Nat.lt_of_lt_of_le (by have := World.block_lt_of_cell? _ _ hw141_3; first | rwa [add_block] at this | exact this) GW130.out)) | (show (Addr.add _ _).block ≠ _; rw [add_block]; exact Nat.ne_of_lt (Nat.lt_of_lt_of_le (by have := World.block_lt_of_cell? _ _ hw141_3; first | rwa [add_block] at this | exact this) GW130.out)) | (dsimp only; exact Nat.ne_of_lt (Nat.lt_of_lt_of_le (by have := World.block_lt_of_cell? _ _ hw141_3; first | rwa [add_block] at this | exact this) GW130.out))) _).trans (((cell_far (p := ⟨gb130, _, none⟩) (by first | exact Nat.ne_of_lt (Nat.lt_of_lt_of_le (by have := World.block_lt_of_cell? _ _ hw141_3; first | rwa [add_block] at this | exact this) GW130.out) | (rw [add_block]; exact Nat.ne_of_lt (Nat.lt_of_lt_of_le (by have := World.block_lt_of_cell? _ _ hw141_3; first | rwa [add_block] at this | exact this) GW130.out)) | (show (Addr.add _ _).block ≠ _; rw [add_block]; exact Nat.ne_of_lt (Nat.lt_of_lt_of_le (by have := World.block_lt_of_cell? _ _ hw141_3; first | rwa [add_block] at this | exact this) GW130.out)) | (dsimp only; exact Nat.ne_of_lt (Nat.lt_of_lt_of_le (by have := World.block_lt_of_cell? _ _ hw141_3; first | rwa [add_block] at this | exact this) GW130.out))) _).trans (hHeld.2.2.2.1)))), ((cell_far (p := ⟨gb130, _, none⟩) (by first | exact Nat.ne_of_lt (Nat.lt_of_lt_of_le (by have := World.block_lt_of_cell? _ _ hw141_4; first | rwa [add_block] at this | exact this) GW130.out) | (rw [add_block]; exact Nat.ne_of_lt (Nat.lt_of_lt_of_le (by have := World.block_lt_of_cell? _ _ hw141_4; first | rwa [add_block] at this | exact this) GW130.out)) | (show (Addr.add _ _).block ≠ _; rw [add_block]; exact Nat.ne_of_lt (Nat.lt_of_lt_of_le (by have := World.block_lt_of_cell? _ _ hw141_4; first | rwa [add_block] at this | exact this) GW130.out)) | (dsimp only; exact Nat.ne_of_lt (Nat.lt_of_lt_of_le (by have := World.block_lt_of_cell? _ _ hw141_4; first | rwa [add_block] at this | exact this) GW130.out))) _).trans (((cell_far (p := ⟨gb130, _, none⟩) (by first | exact Nat.ne_of_lt (Nat.lt_of_lt_of_le (by have := World.block_lt_of_cell? _ _ hw141_4; first | rwa [add_block] at this | exact this) GW130.out) | (rw [add_block]; exact Nat.ne_of_lt (Nat.lt_of_lt_of_le (by have := World.block_lt_of_cell? _ _ hw141_4; first | rwa [add_block] at this | exact this) GW130.out)) | (show (Addr.add _ _).block ≠ _; rw [add_block]; exact Nat.ne_of_lt (Nat.lt_of_lt_of_le (by have := World.block_lt_of_cell? _ _ hw141_4; first | rwa [add_block] at this | exact this) GW130.out)) | (dsimp only; exact Nat.ne_of_lt (Nat.lt_of_lt_of_le (by have := World.block_lt_of_cell? _ _ hw141_4; first | rwa [add_block] at this | exact this) GW130.out))) _).trans (hHeld.2.2.2.2.1)))), ((cell_far (p := ⟨gb130, _, none⟩) (by first | exact Nat.ne_of_lt (Nat.lt_of_lt_of_le (by have := World.block_lt_of_cell? _ _ hw141_5; first | rwa [add_block] at this | exact this) GW130.out) | (rw [add_block]; exact Nat.ne_of_lt (Nat.lt_of_lt_of_le (by have := World.block_lt_of_cell? _ _ hw141_5; first | rwa [add_block] at this | exact this) GW130.out)) | (show (Addr.add _ _).block ≠ _; rw [add_block]; exact Nat.ne_of_lt (Nat.lt_of_lt_of_le (by have := World.block_lt_of_cell? _ _ hw141_5; first | rwa [add_block] at this | exact this) GW130.out)) | (dsimp only; exact Nat.ne_of_lt (Nat.lt_of_lt_of_le (by have := World.block_lt_of_cell? _ _ hw141_5; first | rwa [add_block] at this | exact this) GW130.out))) _).trans (((cell_far (p := ⟨gb130, _, none⟩) (by first | exact Nat.ne_of_lt (Nat.lt_of_lt_of_le (by have := World.block_lt_of_cell? _ _ hw141_5; first | rwa [add_block] at this | exact this) GW130.out) | (rw [add_block]; exact Nat.ne_of_lt (Nat.lt_of_lt_of_le (by have := World.block_lt_of_cell? _ _ hw141_5; first | rwa [add_block] at this | exact this) GW130.out)) | (show (Addr.add _ _).block ≠ _; rw [add_block]; exact Nat.ne_of_lt (Nat.lt_of_lt_of_le (by have := World.block_lt_of_cell? _ _ hw141_5; first | rwa [add_block] at this | exact this) GW130.out)) | (dsimp only; exact Nat.ne_of_lt (Nat.lt_of_lt_of_le (by have := World.block_lt_of_cell? _ _ hw141_5; first | rwa [add_block] at this | exact this) GW130.out))) _).trans (hHeld.2.2.2.2.2))))⟩ (fun hHeld => ?_)
                    clear hK K
                    refine pure_ (i := 8) (N := some 12) (v := ?_) (a' := ?_) #[true, true, true, true, true, true, true, true, true] rfl rfl (any_of HT_.out (by kernel_rfl)) (fun _ _ _ h => h) (Or.inl ⟨by rfl, ?_⟩) ?_ ?_
                    rotate_left
                    · intro w'
                      go_simp
                      with_reducible rfl
                    rotate_left
                    · simp only [Act.put, List.setIfInBounds_toArray, List.set_cons_zero, List.set_cons_succ, i64_w, i32_w]
                      rfl
                    refine done_ (done_of HT_.out (by kernel_rfl)) ?_
                    try go_wp2
                    refine bodyPost_ret (results_list (rs := [.tmp 10, .cell 11 69, .tmp 12]) rfl (by simp) (.tmp (.cell gb130 69 #[.int .u32 ((rd_T104 l0 t131).f3.f0), .int .u32 ((rd_T104 l0 t131).f3.f1)] (0, 0) _ rfl (by (with_reducible repeat (first | refine blk_drewN ?_ _ | refine blk_drew ?_ | refine blk_alloc ?_ _)); refine blk_put (cs := #[.int .u32 ((rd_T104 l0 t131).f3.f0), .int .u32 0]) ?_ 1 _ rfl; (with_reducible repeat (first | refine blk_drewN ?_ _ | refine blk_drew ?_ | refine blk_alloc ?_ _)); refine blk_put (cs := #[.int .u32 0, .int .u32 0]) ?_ 0 _ rfl; (with_reducible repeat (first | refine blk_drewN ?_ _ | refine blk_drew ?_ | refine blk_alloc ?_ _)); exact BK130.out) Try.underlying69 rfl (by kernel_rfl) (.tmp .nil)))) rfl ?_
                    exact ⟨_, by first | rfl | (simp [errW_none, errW_some] <;> rfl) | (simp [*, errW_none, errW_some] <;> rfl), by (with_reducible repeat (first | apply Kd.R_alloc | apply Kd.R_drewN | apply Kd.R_drew)); exact Kd.R_mono (Kd.R_far (p := ⟨gb130, 1, none⟩) (Kd.R_far (p := ⟨gb130, 0, none⟩) (Kd.R_types HO_14.out BK130.out (by decide)) (fun _ hk => hk.2) (.int .u32 ((rd_T104 l0 t131).f3.f0))) (fun _ hk => hk.2) (.int .u32 ((rd_T104 l0 t131).f3.f1))) (fun _ hk => trivial), by repeat (first | (with_reducible first | exact HB.out | apply below_alloc | apply pw_below_drewN | apply below_drew1 | refine below_set ?_ GE129.out | refine below_set ?_ GE130.out) | exact HB.out)⟩
                · rw [if_neg c23] at H
                  exact absurd H (by simp)
              · rw [if_neg c22] at H
                exact absurd H (by simp)
        · rw [if_neg c16] at H
          have c16b0 : (((rd_T104 l0 t131).f1) == a4) = false := beq_eq_false_iff_ne.mpr c16
          have c16b1 : (((rd_T104 l0 t131).f1) != a4) = true := bne_iff_ne.mpr c16
          simp only [Option.some.injEq, Prod.mk.injEq] at H
          obtain ⟨rfl, rfl, rfl, rfl⟩ := H
          go_enter Try.func42, Try.ntmps42
          try go_wp2_with (first | ((with_reducible refine gate_dst (N := 8) rfl ?_); refine box_event ?hg (N := 8) ?hd (cs := #[.int .u32 a3_0, .int .u32 a3_1]) (t := 69) ?hr ?_; (case hd => rfl); (case hg => rfl); (case hr => first | (go_simp; done) | (go_simp; rfl)); intro gb129 hg w40 hbox hb; have n0_ := Aside0.mk (below_step (by repeat (first | (with_reducible first | exact HB.out | apply below_alloc | apply pw_below_drewN | apply below_drew1) | exact HB.out)) hb); have n1_ := Aside0.mk (hbox); have n2_ := Aside0.mk ((by rw [hg]; exact (below_size (by repeat (first | (with_reducible first | exact HB.out | apply below_alloc | apply pw_below_drewN | apply below_drew1) | exact HB.out))) : w.heap.size ≤ gb129)); have n3_ := Aside0.mk ((by rw [hg]; exact (below_size (by repeat (first | (with_reducible first | exact HB.out | apply below_alloc | apply pw_below_drewN | apply below_drew1) | exact HB.out))) : w.heap.size ≤ gb129)); clear HB; have HB := n0_; have BK129 := n1_; have GW129 := n2_; have GE129 := n3_; clear n0_ n1_ n2_ n3_; clear hb hbox hg) | ((with_reducible refine gate_dst (N := 11) rfl ?_); refine box_event ?hg (N := 11) ?hd (cs := #[.int .u32 0, .int .u32 0]) (t := 69) ?hr ?_; (case hd => rfl); (case hg => rfl); (case hr => first | (go_simp; done) | (go_simp; rfl)); intro gb130 hg w41 hbox hb; have n0_ := Aside0.mk (blk_below (g := gb129) (o := .cells #[.int .u32 a3_0, .int .u32 a3_1] 69 (0, 0)) (by (with_reducible repeat (first | refine blk_drewN ?_ _ | refine blk_drew ?_ | refine blk_alloc ?_ _)); exact BK129.out) hb); have n1_ := Aside0.mk (below_step (by repeat (first | (with_reducible first | exact HB.out | apply below_alloc | apply pw_below_drewN | apply below_drew1 | refine below_set ?_ GE129.out) | exact HB.out)) hb); have n2_ := Aside0.mk (hbox); have n3_ := Aside0.mk ((by rw [hg]; exact (below_size (by repeat (first | (with_reducible first | exact HB.out | apply below_alloc | apply pw_below_drewN | apply below_drew1 | refine below_set ?_ GE129.out) | exact HB.out))) : w.heap.size ≤ gb130)); have n4_ := Aside0.mk ((by rw [hg]; exact (below_size (by repeat (first | (with_reducible first | exact HB.out | apply below_alloc | apply pw_below_drewN | apply below_drew1 | refine below_set ?_ GE129.out) | exact HB.out))) : w.heap.size ≤ gb130)); have n5_ := Aside0.mk ((by rw [hg]; exact Nat.ne_of_lt (blk_lt (g := gb129) (o := .cells #[.int .u32 a3_0, .int .u32 a3_1] 69 (0, 0)) (by (with_reducible repeat (first | refine blk_drewN ?_ _ | refine blk_drew ?_ | refine blk_alloc ?_ _)); exact BK129.out)) : gb129 ≠ gb130)); have n6_ := Aside0.mk ((by rw [hg]; exact Nat.ne_of_gt (blk_lt (g := gb129) (o := .cells #[.int .u32 a3_0, .int .u32 a3_1] 69 (0, 0)) (by (with_reducible repeat (first | refine blk_drewN ?_ _ | refine blk_drew ?_ | refine blk_alloc ?_ _)); exact BK129.out)) : gb130 ≠ gb129)); clear BK129; clear HB; have BK129 := n0_; have HB := n1_; have BK130 := n2_; have GW130 := n3_; have GE130 := n4_; have NB129_130 := n5_; have NB130_129 := n6_; clear n0_ n1_ n2_ n3_ n4_ n5_ n6_; clear hb hbox hg; have hnb42 := NB129_130.out; have hnc42 := NB130_129.out; have hcz43_0 : w41.cell? ⟨gb129, 0, none⟩ = some (.int .u32 a3_0) := (blk_cell BK129.out 0).trans rfl; have hcz43_1 : w41.cell? ⟨gb129, 1, none⟩ = some (.int .u32 a3_1) := (blk_cell BK129.out 1).trans rfl; have hfz43_0 := blk_frozen BK129.out 0; have hfz43_1 := blk_frozen BK129.out 1) | ((with_reducible refine gate_callee (f := 45) rfl ?_); refine goesL_ (some 20) rfl rfl Try.func45 (by kernel_rfl) rfl #[.slice A0 l0.length c0, .int .i64 a2, .agg #[.int .u32 a3_0, .int .u32 a3_1]] rfl (by (try simp only [List.map_toArray, List.map_cons, List.map_nil]); first | done | rfl | (simp only [List.length_drop, List.length_take]; rfl)) ?_; (with_reducible refine (rivuletref8_Used.calls k _ _ l0 a2 a3_0 a3_1 t131 _ ?side1 ?side2 A6.out).mono ?_); (case side1 => repeat (first | exact (Kd.C_below HR0.out HB.out) | (with_reducible refine Kd.C_alloc ?_ _) | (with_reducible refine Kd.C_drewN ?_ _) | (with_reducible refine Kd.C_drew ?_))); (case side2 => exact HC0.out); rintro e w44 ⟨rfl, hb⟩; refine ⟨_, rfl, ?_⟩; have n0_ := Aside0.mk (blk_below (g := gb129) (o := .cells #[.int .u32 a3_0, .int .u32 a3_1] 69 (0, 0)) (by (with_reducible repeat (first | refine blk_drewN ?_ _ | refine blk_drew ?_ | refine blk_alloc ?_ _)); exact BK129.out) hb); have n1_ := Aside0.mk (blk_below (g := gb130) (o := .cells #[.int .u32 0, .int .u32 0] 69 (0, 0)) (by (with_reducible repeat (first | refine blk_drewN ?_ _ | refine blk_drew ?_ | refine blk_alloc ?_ _)); exact BK130.out) hb); have n2_ := Aside0.mk (below_step (by repeat (first | (with_reducible first | exact HB.out | apply below_alloc | apply pw_below_drewN | apply below_drew1 | refine below_set ?_ GE129.out | refine below_set ?_ GE130.out) | exact HB.out)) hb); clear BK129; clear BK130; clear HB; have BK129 := n0_; have BK130 := n1_; have HB := n2_; clear n0_ n1_ n2_; (try clear hb); (try clear hb2); (try clear hk); (try clear hi); have p132 : 0 ≤ (t131 : Int) := of_decide_eq_true (by first | (with_reducible assumption) | assumption); have q132 : t131 < (l0.length : Int) := of_decide_eq_true (by first | (with_reducible assumption) | assumption); obtain ⟨ad132, A132_5, c132_5, e132, hx132_0, hx132_1, hx132_2, hx132_3, hx132_4, hx132_5, hl132_5, hi132_5⟩ := at_T104 HR0.out t131 p132 q132; cases e132; replace hx132_0 := (HB.out.cell (World.block_lt_of_cell? w _ hx132_0)).trans hx132_0; replace hx132_1 := (HB.out.cell (World.block_lt_of_cell? w _ hx132_1)).trans hx132_1; replace hx132_2 := (HB.out.cell (World.block_lt_of_cell? w _ hx132_2)).trans hx132_2; replace hx132_3 := (HB.out.cell (World.block_lt_of_cell? w _ hx132_3)).trans hx132_3; replace hx132_4 := (HB.out.cell (World.block_lt_of_cell? w _ hx132_4)).trans hx132_4; replace hx132_5 := (HB.out.cell (World.block_lt_of_cell? w _ hx132_5)).trans hx132_5; have HR132_5 := Aside0.mk hi132_5; have HC132_5 := Aside0.mk hl132_5; clear hi132_5 hl132_5; replace p132 := eq_true p132; replace q132 := eq_true q132))
          have n0_ := Aside0.mk (blk_drew BK129.out)
          have n1_ := Aside0.mk (blk_drew BK130.out)
          have n2_ := Aside0.mk (below_drew1 HB.out)
          clear BK129
          clear BK130
          clear HB
          have BK129 := n0_
          have BK130 := n1_
          have HB := n2_
          clear n0_ n1_ n2_
          have p133 : 0 ≤ (t131 : Int) := of_decide_eq_true (by first | (with_reducible assumption) | assumption)
          have q133 : t131 < (l0.length : Int) := of_decide_eq_true (by first | (with_reducible assumption) | assumption)
          obtain ⟨ad133, A133_5, c133_5, e133, hx133_0, hx133_1, hx133_2, hx133_3, hx133_4, hx133_5, hl133_5, hi133_5⟩ := at_T104 HR0.out t131 p133 q133
          have hw133_5 := hx133_5
          have hw133_4 := hx133_4
          have hw133_3 := hx133_3
          have hw133_2 := hx133_2
          have hw133_1 := hx133_1
          have hw133_0 := hx133_0
          obtain rfl : ad132 = ad133 := (by injection e133)
          replace hx133_0 := (HB.out.cell (World.block_lt_of_cell? w _ hx133_0)).trans hx133_0
          replace hx133_1 := (HB.out.cell (World.block_lt_of_cell? w _ hx133_1)).trans hx133_1
          replace hx133_2 := (HB.out.cell (World.block_lt_of_cell? w _ hx133_2)).trans hx133_2
          replace hx133_3 := (HB.out.cell (World.block_lt_of_cell? w _ hx133_3)).trans hx133_3
          replace hx133_4 := (HB.out.cell (World.block_lt_of_cell? w _ hx133_4)).trans hx133_4
          replace hx133_5 := (HB.out.cell (World.block_lt_of_cell? w _ hx133_5)).trans hx133_5
          have HR133_5 := Aside0.mk hi133_5
          have HC133_5 := Aside0.mk hl133_5
          clear hi133_5 hl133_5
          replace p133 := eq_true p133
          replace q133 := eq_true q133
          refine start_ (n := 8) (S := fun w' => w'.cell? (ad132.add ((t131).toNat * 6)) = some (.int .i64 ((rd_T104 l0 t131).f0)) ∧ w'.cell? ⟨(ad132.add ((t131).toNat * 6)).block, (ad132.add ((t131).toNat * 6)).off + 1, none⟩ = some (.int .i64 ((rd_T104 l0 t131).f1)) ∧ w'.cell? ⟨(ad132.add ((t131).toNat * 6)).block, (ad132.add ((t131).toNat * 6)).off + 2, none⟩ = some (.int .i64 ((rd_T104 l0 t131).f2)) ∧ w'.cell? ⟨(ad132.add ((t131).toNat * 6)).block, (ad132.add ((t131).toNat * 6)).off + 3, none⟩ = some (.int .u32 ((rd_T104 l0 t131).f3.f0)) ∧ w'.cell? ⟨(ad132.add ((t131).toNat * 6)).block, (ad132.add ((t131).toNat * 6)).off + 4, none⟩ = some (.int .u32 ((rd_T104 l0 t131).f3.f1)) ∧ w'.cell? ⟨(ad132.add ((t131).toNat * 6)).block, (ad132.add ((t131).toNat * 6)).off + 5, none⟩ = some (.slice A133_5 ((rd_T104 l0 t131).f4).length c133_5)) (ds := []) #[false, false, false, false, false, false, false, false] (by kernel_rfl) rfl rfl ⟨((HB.out.cell (World.block_lt_of_cell? w _ hw133_0)).trans hw133_0), ((HB.out.cell (World.block_lt_of_cell? w _ hw133_1)).trans hw133_1), ((HB.out.cell (World.block_lt_of_cell? w _ hw133_2)).trans hw133_2), ((HB.out.cell (World.block_lt_of_cell? w _ hw133_3)).trans hw133_3), ((HB.out.cell (World.block_lt_of_cell? w _ hw133_4)).trans hw133_4), ((HB.out.cell (World.block_lt_of_cell? w _ hw133_5)).trans hw133_5)⟩ (fun hHeld => ?_); refine with_tabW rivuletref8_Do.tab5 rivuletref8_Do.bits5 (fun HT_ HW_ => ?_)
          generalize w44.drew = w45 at BK129 BK130 HB HR133_5 hx133_0 hx133_1 hx133_2 hx133_3 hx133_4 hx133_5 hHeld ⊢
          refine pure_ (i := 0) (N := some 31) (v := ?_) (a' := ?_) #[true, false, false, false, false, false, false, false] rfl rfl (any_of HT_.out (by kernel_rfl)) (fun _ _ _ h => h) (Or.inl ⟨by rfl, ?_⟩) ?_ ?_
          rotate_left
          · intro w'
            go_simp
            with_reducible rfl
          rotate_left
          · simp only [Act.put, List.setIfInBounds_toArray, List.set_cons_zero, List.set_cons_succ, i64_w, i32_w]
            rfl
          refine pure_ (i := 1) (N := some 32) (v := ?_) (a' := ?_) #[true, true, false, false, false, false, false, false] rfl rfl (any_of HT_.out (by kernel_rfl)) (fun _ _ _ h => h) (Or.inl ⟨by rfl, ?_⟩) ?_ ?_
          rotate_left
          · intro w'
            go_simp
            with_reducible rfl
          rotate_left
          · simp only [Act.put, List.setIfInBounds_toArray, List.set_cons_zero, List.set_cons_succ, i64_w, i32_w]
            rfl
          refine pure_ (i := 2) (N := some 33) (v := ?_) (a' := ?_) #[true, true, true, false, false, false, false, false] rfl rfl (any_of HT_.out (by kernel_rfl)) (fun _ _ _ h => h) (Or.inl ⟨by rfl, ?_⟩) ?_ ?_
          rotate_left
          · intro w'
            go_simp
            with_reducible rfl
          rotate_left
          · simp only [Act.put, List.setIfInBounds_toArray, List.set_cons_zero, List.set_cons_succ, i64_w, i32_w]
            rfl
          refine pure_ (i := 3) (N := some 34) (v := ?_) (a' := ?_) #[true, true, true, true, false, false, false, false] rfl rfl (any_of HT_.out (by kernel_rfl)) (fun _ _ _ h => h) (Or.inl ⟨by rfl, ?_⟩) ?_ ?_
          rotate_left
          · intro w'
            go_simp
            with_reducible rfl
          rotate_left
          · simp only [Act.put, List.setIfInBounds_toArray, List.set_cons_zero, List.set_cons_succ, i64_w, i32_w]
            rfl
          refine pure_ (i := 5) (N := some 10) (v := ?_) (a' := ?_) #[true, true, true, true, false, true, false, false] rfl rfl (any_of HT_.out (by kernel_rfl)) (fun _ _ _ h => h) (Or.inl ⟨by rfl, ?_⟩) ?_ ?_
          rotate_left
          · intro w'
            go_simp
            with_reducible rfl
          rotate_left
          · simp only [Act.put, List.setIfInBounds_toArray, List.set_cons_zero, List.set_cons_succ, i64_w, i32_w]
            rfl
          refine take_ (i := 4) (N := some 35) (v := ?_) (a' := ?_) #[true, true, true, true, true, true, false, false] rfl rfl (take_ofW HT_.out HW_.out (by kernel_rfl)) (fun _ _ _ h => h) (Or.inl ⟨by rfl, ?_⟩) hHeld ?_ ?_
          rotate_left
          · rintro w' ⟨s0, s1, s2, s3, s4, s5⟩
            go_simp
            with_reducible rfl
          rotate_left
          · simp only [Act.put, List.setIfInBounds_toArray, List.set_cons_zero, List.set_cons_succ, i64_w, i32_w]
            rfl
          refine one_ (i := 6) (N := none) #[true, true, true, true, true, true, true, false] rfl rfl (one_of HT_.out (by kernel_rfl)) (by decide) (fun K hK => ?_)
          have hs46 : w45.cell? ⟨gb130, 0, none⟩ = some (.int .u32 0) := (blk_cell BK130.out 0).trans rfl
          have hfs46 := blk_frozen BK130.out 0
          have hns46_0 := NB129_130.out
          have hms46_0 := NB130_129.out
          have hs47 : w45.cell? ⟨gb130, 1, none⟩ = some (.int .u32 0) := (blk_cell BK130.out 1).trans rfl
          have hfs47 := blk_frozen BK130.out 1
          have hns47_0 := NB129_130.out
          have hms47_0 := NB130_129.out
          refine skip_ (w1 := ?_) (by rfl) rfl ?_ ?_
          rotate_left
          · go_simp
            rfl
          refine hK.out _ _ ⟨((cell_far (p := ⟨gb130, _, none⟩) (by first | exact Nat.ne_of_lt (Nat.lt_of_lt_of_le (by have := World.block_lt_of_cell? _ _ hw133_0; first | rwa [add_block] at this | exact this) GW130.out) | (rw [add_block]; exact Nat.ne_of_lt (Nat.lt_of_lt_of_le (by have := World.block_lt_of_cell? _ _ hw133_0; first | rwa [add_block] at this | exact this) GW130.out)) | (show (Addr.add _ _).block ≠ _; rw [add_block]; exact Nat.ne_of_lt (Nat.lt_of_lt_of_le (by have := World.block_lt_of_cell? _ _ hw133_0; first | rwa [add_block] at this | exact this) GW130.out)) | (dsimp only; exact Nat.ne_of_lt (Nat.lt_of_lt_of_le (by have := World.block_lt_of_cell? _ _ hw133_0; first | rwa [add_block] at this | exact this) GW130.out))) _).trans (((cell_far (p := ⟨gb130, _, none⟩) (by first | exact Nat.ne_of_lt (Nat.lt_of_lt_of_le (by have := World.block_lt_of_cell? _ _ hw133_0; first | rwa [add_block] at this | exact this) GW130.out) | (rw [add_block]; exact Nat.ne_of_lt (Nat.lt_of_lt_of_le (by have := World.block_lt_of_cell? _ _ hw133_0; first | rwa [add_block] at this | exact this) GW130.out)) | (show (Addr.add _ _).block ≠ _; rw [add_block]; exact Nat.ne_of_lt (Nat.lt_of_lt_of_le (by have := World.block_lt_of_cell? _ _ hw133_0; first | rwa [add_block] at this | exact this) GW130.out)) | (dsimp only; exact Nat.ne_of_lt (Nat.lt_of_lt_of_le (by have := World.block_lt_of_cell? _ _ hw133_0; first | rwa [add_block] at this | exact this) GW130.out))) _).trans (hHeld.1)))), ((cell_far (p := ⟨gb130, _, none⟩) (by first | exact Nat.ne_of_lt (Nat.lt_of_lt_of_le (by have := World.block_lt_of_cell? _ _ hw133_1; first | rwa [add_block] at this | exact this) GW130.out) | (rw [add_block]; exact Nat.ne_of_lt (Nat.lt_of_lt_of_le (by have := World.block_lt_of_cell? _ _ hw133_1; first | rwa [add_block] at this | exact this) GW130.out)) | (show (Addr.add _ _).block ≠ _; rw [add_block]; exact Nat.ne_of_lt (Nat.lt_of_lt_of_le (by have := World.block_lt_of_cell? _ _ hw133_1; first | rwa [add_block] at this | exact this) GW130.out)) | (dsimp only; exact Nat.ne_of_lt (Nat.lt_of_lt_of_le (by have := World.block_lt_of_cell? _ _ hw133_1; first | rwa [add_block] at this | exact this) GW130.out))) _).trans (((cell_far (p := ⟨gb130, _, none⟩) (by first | exact Nat.ne_of_lt (Nat.lt_of_lt_of_le (by have := World.block_lt_of_cell? _ _ hw133_1; first | rwa [add_block] at this | exact this) GW130.out) | (rw [add_block]; exact Nat.ne_of_lt (Nat.lt_of_lt_of_le (by have := World.block_lt_of_cell? _ _ hw133_1; first | rwa [add_block] at this | exact this) GW130.out)) | (show (Addr.add _ _).block ≠ _; rw [add_block]; exact Nat.ne_of_lt (Nat.lt_of_lt_of_le (by have := World.block_lt_of_cell? _ _ hw133_1; first | rwa [add_block] at this | exact this) GW130.out)) | (dsimp only; exact Nat.ne_of_lt (Nat.lt_of_lt_of_le (by have := World.block_lt_of_cell? _ _ hw133_1; first | rwa [add_block] at this | exact this) GW130.out))) _).trans (hHeld.2.1)))), ((cell_far (p := ⟨gb130, _, none⟩) (by first | exact Nat.ne_of_lt (Nat.lt_of_lt_of_le (by have := World.block_lt_of_cell? _ _ hw133_2; first | rwa [add_block] at this | exact this) GW130.out) | (rw [add_block]; exact Nat.ne_of_lt (Nat.lt_of_lt_of_le (by have := World.block_lt_of_cell? _ _ hw133_2; first | rwa [add_block] at this | exact this) GW130.out)) | (show (Addr.add _ _).block ≠ _; rw [add_block]; exact Nat.ne_of_lt (Nat.lt_of_lt_of_le (by have := World.block_lt_of_cell? _ _ hw133_2; first | rwa [add_block] at this | exact this) GW130.out)) | (dsimp only; exact Nat.ne_of_lt (Nat.lt_of_lt_of_le (by have := World.block_lt_of_cell? _ _ hw133_2; first | rwa [add_block] at this | exact this) GW130.out))) _).trans (((cell_far (p := ⟨gb130, _, none⟩) (by first | exact Nat.ne_of_lt (Nat.lt_of_lt_of_le (by have := World.block_lt_of_cell? _ _ hw133_2; first | rwa [add_block] at this | exact this) GW130.out) | (rw [add_block]; exact Nat.ne_of_lt (Nat.lt_of_lt_of_le (by have := World.block_lt_of_cell? _ _ hw133_2; first | rwa [add_block] at this | exact this) GW130.out)) | (show (Addr.add _ _).block ≠ _; rw [add_block]; exact Nat.ne_of_lt (Nat.lt_of_lt_of_le (by have := World.block_lt_of_cell? _ _ hw133_2; first | rwa [add_block] at this | exact this) GW130.out)) | (dsimp only; exact Nat.ne_of_lt (Nat.lt_of_lt_of_le (by have := World.block_lt_of_cell? _ _ hw133_2; first | rwa [add_block] at this | exact this) GW130.out))) _).trans (hHeld.2.2.1)))), ((cell_far (p := ⟨gb130, _, none⟩) (by first | exact Nat.ne_of_lt (Nat.lt_of_lt_of_le (by have := World.block_lt_of_cell? _ _ hw133_3; first | rwa [add_block] at this | exact this) GW130.out) | (rw [add_block]; exact Nat.ne_of_lt (Nat.lt_of_lt_of_le (by have := World.block_lt_of_cell? _ _ hw133_3; first | rwa [add_block] at this | exact this) GW130.out)) | (show (Addr.add _ _).block ≠ _; rw [add_block]; exact Nat.ne_of_lt (Nat.lt_of_lt_of_le (by have := World.block_lt_of_cell? _ _ hw133_3; first | rwa [add_block] at this | exact this) GW130.out)) | (dsimp only; exact Nat.ne_of_lt (Nat.lt_of_lt_of_le (by have := World.block_lt_of_cell? _ _ hw133_3; first | rwa [add_block] at this | exact this) GW130.out))) _).trans (((cell_far (p := ⟨gb130, _, none⟩) (by first | exact Nat.ne_of_lt (Nat.lt_of_lt_of_le (by have := World.block_lt_of_cell? _ _ hw133_3; first | rwa [add_block] at this | exact this) GW130.out) | (rw [add_block]; exact Nat.ne_of_lt (Nat.lt_of_lt_of_le (by have := World.block_lt_of_cell? _ _ hw133_3; first | rwa [add_block] at this | exact this) GW130.out)) | (show (Addr.add _ _).block ≠ _; rw [add_block]; exact Nat.ne_of_lt (Nat.lt_of_lt_of_le (by have := World.block_lt_of_cell? _ _ hw133_3; first | rwa [add_block] at this | exact this) GW130.out)) | (dsimp only; exact Nat.ne_of_lt (Nat.lt_of_lt_of_le (by have := World.block_lt_of_cell? _ _ hw133_3; first | rwa [add_block] at this | exact this) GW130.out))) _).trans (hHeld.2.2.2.1)))), ((cell_far (p := ⟨gb130, _, none⟩) (by first | exact Nat.ne_of_lt (Nat.lt_of_lt_of_le (by have := World.block_lt_of_cell? _ _ hw133_4; first | rwa [add_block] at this | exact this) GW130.out) | (rw [add_block]; exact Nat.ne_of_lt (Nat.lt_of_lt_of_le (by have := World.block_lt_of_cell? _ _ hw133_4; first | rwa [add_block] at this | exact this) GW130.out)) | (show (Addr.add _ _).block ≠ _; rw [add_block]; exact Nat.ne_of_lt (Nat.lt_of_lt_of_le (by have := World.block_lt_of_cell? _ _ hw133_4; first | rwa [add_block] at this | exact this) GW130.out)) | (dsimp only; exact Nat.ne_of_lt (Nat.lt_of_lt_of_le (by have := World.block_lt_of_cell? _ _ hw133_4; first | rwa [add_block] at this | exact this) GW130.out))) _).trans (((cell_far (p := ⟨gb130, _, none⟩) (by first | exact Nat.ne_of_lt (Nat.lt_of_lt_of_le (by have := World.block_lt_of_cell? _ _ hw133_4; first | rwa [add_block] at this | exact this) GW130.out) | (rw [add_block]; exact Nat.ne_of_lt (Nat.lt_of_lt_of_le (by have := World.block_lt_of_cell? _ _ hw133_4; first | rwa [add_block] at this | exact this) GW130.out)) | (show (Addr.add _ _).block ≠ _; rw [add_block]; exact Nat.ne_of_lt (Nat.lt_of_lt_of_le (by have := World.block_lt_of_cell? _ _ hw133_4; first | rwa [add_block] at this | exact this) GW130.out)) | (dsimp only; exact Nat.ne_of_lt (Nat.lt_of_lt_of_le (by have := World.block_lt_of_cell? _ _ hw133_4; first | rwa [add_block] at this | exact this) GW130.out))) _).trans (hHeld.2.2.2.2.1)))), ((cell_far (p := ⟨gb130, _, none⟩) (by first | exact Nat.ne_of_lt (Nat.lt_of_lt_of_le (by have := World.block_lt_of_cell? _ _ hw133_5; first | rwa [add_block] at this | exact this) GW130.out) | (rw [add_block]; exact Nat.ne_of_lt (Nat.lt_of_lt_of_le (by have := World.block_lt_of_cell? _ _ hw133_5; first | rwa [add_block] at this | exact this) GW130.out)) | (show (Addr.add _ _).block ≠ _; rw [add_block]; exact Nat.ne_of_lt (Nat.lt_of_lt_of_le (by have := World.block_lt_of_cell? _ _ hw133_5; first | rwa [add_block] at this | exact this) GW130.out)) | (dsimp only; exact Nat.ne_of_lt (Nat.lt_of_lt_of_le (by have := World.block_lt_of_cell? _ _ hw133_5; first | rwa [add_block] at this | exact this) GW130.out))) _).trans (((cell_far (p := ⟨gb130, _, none⟩) (by first | exact Nat.ne_of_lt (Nat.lt_of_lt_of_le (by have := World.block_lt_of_cell? _ _ hw133_5; first | rwa [add_block] at this | exact this) GW130.out) | (rw [add_block]; exact Nat.ne_of_lt (Nat.lt_of_lt_of_le (by have := World.block_lt_of_cell? _ _ hw133_5; first | rwa [add_block] at this | exact this) GW130.out)) | (show (Addr.add _ _).block ≠ _; rw [add_block]; exact Nat.ne_of_lt (Nat.lt_of_lt_of_le (by have := World.block_lt_of_cell? _ _ hw133_5; first | rwa [add_block] at this | exact this) GW130.out)) | (dsimp only; exact Nat.ne_of_lt (Nat.lt_of_lt_of_le (by have := World.block_lt_of_cell? _ _ hw133_5; first | rwa [add_block] at this | exact this) GW130.out))) _).trans (hHeld.2.2.2.2.2))))⟩ (fun hHeld => ?_)
          clear hK K
          refine pure_ (i := 7) (N := some 12) (v := ?_) (a' := ?_) #[true, true, true, true, true, true, true, true] rfl rfl (any_of HT_.out (by kernel_rfl)) (fun _ _ _ h => h) (Or.inl ⟨by rfl, ?_⟩) ?_ ?_
          rotate_left
          · intro w'
            go_simp
            with_reducible rfl
          rotate_left
          · simp only [Act.put, List.setIfInBounds_toArray, List.set_cons_zero, List.set_cons_succ, i64_w, i32_w]
            rfl
          refine done_ (done_of HT_.out (by kernel_rfl)) ?_
          try go_wp2
          refine bodyPost_ret (results_list (rs := [.tmp 10, .cell 11 69, .tmp 12]) rfl (by simp) (.tmp (.cell gb130 69 #[.int .u32 ((rd_T104 l0 t131).f3.f0), .int .u32 ((rd_T104 l0 t131).f3.f1)] (0, 0) _ rfl (by (with_reducible repeat (first | refine blk_drewN ?_ _ | refine blk_drew ?_ | refine blk_alloc ?_ _)); refine blk_put (cs := #[.int .u32 ((rd_T104 l0 t131).f3.f0), .int .u32 0]) ?_ 1 _ rfl; (with_reducible repeat (first | refine blk_drewN ?_ _ | refine blk_drew ?_ | refine blk_alloc ?_ _)); refine blk_put (cs := #[.int .u32 0, .int .u32 0]) ?_ 0 _ rfl; (with_reducible repeat (first | refine blk_drewN ?_ _ | refine blk_drew ?_ | refine blk_alloc ?_ _)); exact BK130.out) Try.underlying69 rfl (by kernel_rfl) (.tmp .nil)))) rfl ?_
          exact ⟨_, by first | rfl | (simp [errW_none, errW_some] <;> rfl) | (simp [*, errW_none, errW_some] <;> rfl), by first | exact Kd.R_nil _ _ _ _ _ | exact Kd.N_nil _ _ _ _ _ | exact Kd.V_nil _ _ _ _ _ | exact Kd.Q_nil _ _ _ _ _ | exact Kd.S_nil _ _ _ _ _, by repeat (first | (with_reducible first | exact HB.out | apply below_alloc | apply pw_below_drewN | apply below_drew1 | refine below_set ?_ GE129.out | refine below_set ?_ GE130.out) | exact HB.out)⟩
      · rw [if_neg c15] at H
        exact absurd H (by simp)
    · rw [if_neg c14] at H
      exact absurd H (by simp)

end Go.Proofs.Ytjcihhkeehjgdaa.PFwdSays
