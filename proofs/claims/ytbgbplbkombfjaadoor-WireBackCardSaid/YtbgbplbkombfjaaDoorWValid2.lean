/- wire.Valid at kind 2. -/
import Derived.Test.YtbgbplbkombfjaaDoorWMsg
namespace Go.Proofs.YtbgbplbkombfjaaDoor
open Go.RowKit Go.Proofs.YtbgbplbkombfjaaDoorW.PrintWords SumPlain
set_option linter.unusedVariables false
set_option linter.unusedSimpArgs false
attribute [local go_sem] setCell_drewN alloc_drewN
set_option maxHeartbeats 2000000 in
set_option maxRecDepth 100000 in
theorem valid2_rank (E : Nat → Addr) (src dst ksrc kgrp rank cost : Int) (only : Bool) (A : Option Addr) (n c : Nat) (w : World) (hn4 : n ≤ 4) (hE : w.cell? ⟨0, 0, none⟩ = some (errV E (some 0))) (hx : ¬ (0 ≤ rank ∧ rank ≤ 65535)) :
    Calls Tryd.prog 28 #[.agg #[.int .i64 2, .int .u32 src, .int .u32 dst, .int .u32 ksrc, .int .u32 kgrp, .int .i64 rank, .int .i64 cost, .bool only, .slice A n c]] w fun e w' => e = .returned (errV E (some 0)) ∧ Below w.heap.size w w' := by
  have hu := Tryd.underlying86
  have hu2 := Tryd.underlying56
  have hu3 := Tryd.underlying53
  have hlt : 0 < w.heap.size := World.block_lt_of_cell? w _ hE
  simp only [errV] at hE ⊢
  by_cases hy : rank < 0
  · have hyd : decide (0 ≤ rank) = false := decide_eq_false (by omega)
    clear hx
    go_enter Tryd.func28, Tryd.ntmps28
    go_wp2
    go_ret
    exact ⟨rfl, by repeat' (first | exact Below.refl _ _ | (refine below_alloc ?_ _))⟩
  · have hy0 : 0 ≤ rank := by omega
    have hy1 : 65535 < rank := by omega
    have hyd : decide (rank ≤ 65535) = false := decide_eq_false (by omega)
    clear hx hy
    go_enter Tryd.func28, Tryd.ntmps28
    go_wp2
    go_ret
    exact ⟨rfl, by repeat' (first | exact Below.refl _ _ | (refine below_alloc ?_ _))⟩
set_option maxHeartbeats 2000000 in
set_option maxRecDepth 100000 in
theorem valid2_cost (E : Nat → Addr) (src dst ksrc kgrp rank cost : Int) (only : Bool) (A : Option Addr) (n c : Nat) (w : World) (hn4 : n ≤ 4) (hE : w.cell? ⟨0, 0, none⟩ = some (errV E (some 0))) (hr0 : 0 ≤ rank) (hr1 : rank ≤ 65535) (hx : ¬ (0 ≤ cost ∧ cost ≤ 65535)) :
    Calls Tryd.prog 28 #[.agg #[.int .i64 2, .int .u32 src, .int .u32 dst, .int .u32 ksrc, .int .u32 kgrp, .int .i64 rank, .int .i64 cost, .bool only, .slice A n c]] w fun e w' => e = .returned (errV E (some 0)) ∧ Below w.heap.size w w' := by
  have hu := Tryd.underlying86
  have hu2 := Tryd.underlying56
  have hu3 := Tryd.underlying53
  have hlt : 0 < w.heap.size := World.block_lt_of_cell? w _ hE
  simp only [errV] at hE ⊢
  by_cases hy : cost < 0
  · have hyd : decide (0 ≤ cost) = false := decide_eq_false (by omega)
    clear hx
    go_enter Tryd.func28, Tryd.ntmps28
    go_wp2
    go_ret
    exact ⟨rfl, by repeat' (first | exact Below.refl _ _ | (refine below_alloc ?_ _))⟩
  · have hy0 : 0 ≤ cost := by omega
    have hy1 : 65535 < cost := by omega
    have hyd : decide (cost ≤ 65535) = false := decide_eq_false (by omega)
    clear hx hy
    go_enter Tryd.func28, Tryd.ntmps28
    go_wp2
    go_ret
    exact ⟨rfl, by repeat' (first | exact Below.refl _ _ | (refine below_alloc ?_ _))⟩
set_option maxHeartbeats 2000000 in
set_option maxRecDepth 100000 in
theorem valid2_grp (E : Nat → Addr) (src dst ksrc kgrp rank cost : Int) (only : Bool) (A : Option Addr) (n c : Nat) (w : World) (hn4 : n ≤ 4) (hE : w.cell? ⟨0, 0, none⟩ = some (errV E (some 0))) (hr0 : 0 ≤ rank) (hr1 : rank ≤ 65535) (hc0 : 0 ≤ cost) (hc1 : cost ≤ 65535) (hw0 : 0 ≤ kgrp) (hw1 : kgrp < 4294967296) (hgn : ¬ (3758096384 ≤ kgrp ∧ kgrp ≤ 4026531839)) :
    Calls Tryd.prog 28 #[.agg #[.int .i64 2, .int .u32 src, .int .u32 dst, .int .u32 ksrc, .int .u32 kgrp, .int .i64 rank, .int .i64 cost, .bool only, .slice A n c]] w fun e w' => e = .returned (errV E (some 0)) ∧ Below w.heap.size w w' := by
  have hu := Tryd.underlying86
  have hu2 := Tryd.underlying56
  have hu3 := Tryd.underlying53
  have hlt : 0 < w.heap.size := World.block_lt_of_cell? w _ hE
  simp only [errV] at hE ⊢
  go_enter Tryd.func28, Tryd.ntmps28
  go_wp2_with (first | (go_at_call 52; refine (grp_no kgrp _ hw0 hw1 hgn).mono ?_; rintro e w2 ⟨rfl, rfl⟩) | go_in)
  go_ret
  exact ⟨rfl, by repeat' (first | exact Below.refl _ _ | (refine below_alloc ?_ _))⟩
set_option maxHeartbeats 2000000 in
set_option maxRecDepth 100000 in
theorem valid2_rank0 (E : Nat → Addr) (src dst ksrc kgrp rank cost : Int) (only : Bool) (A : Option Addr) (n c : Nat) (w : World) (hn4 : n ≤ 4) (hE : w.cell? ⟨0, 0, none⟩ = some (errV E (some 0))) (hr0 : 0 ≤ rank) (hr1 : rank ≤ 65535) (hc0 : 0 ≤ cost) (hc1 : cost ≤ 65535) (hg0 : 3758096384 ≤ kgrp) (hg1 : kgrp ≤ 4026531839) (hx : ¬ rank = 0) :
    Calls Tryd.prog 28 #[.agg #[.int .i64 2, .int .u32 src, .int .u32 dst, .int .u32 ksrc, .int .u32 kgrp, .int .i64 rank, .int .i64 cost, .bool only, .slice A n c]] w fun e w' => e = .returned (errV E (some 0)) ∧ Below w.heap.size w w' := by
  have hu := Tryd.underlying86
  have hu2 := Tryd.underlying56
  have hu3 := Tryd.underlying53
  have hlt : 0 < w.heap.size := World.block_lt_of_cell? w _ hE
  simp only [errV] at hE ⊢
  have hbx : (rank != 0) = true := bne_iff_ne.2 hx
  clear hx
  go_enter Tryd.func28, Tryd.ntmps28
  go_wp2_with (first | (go_at_call 52; refine (grp_yes kgrp _ hg0 hg1).mono ?_; rintro e w2 ⟨rfl, rfl⟩) | go_in)
  go_ret
  exact ⟨rfl, by repeat' (first | exact Below.refl _ _ | (refine below_alloc ?_ _))⟩
set_option maxHeartbeats 2000000 in
set_option maxRecDepth 100000 in
theorem valid2_cost0 (E : Nat → Addr) (src dst ksrc kgrp rank cost : Int) (only : Bool) (A : Option Addr) (n c : Nat) (w : World) (hn4 : n ≤ 4) (hE : w.cell? ⟨0, 0, none⟩ = some (errV E (some 0))) (hr0 : 0 ≤ rank) (hr1 : rank ≤ 65535) (hc0 : 0 ≤ cost) (hc1 : cost ≤ 65535) (hg0 : 3758096384 ≤ kgrp) (hg1 : kgrp ≤ 4026531839) (hzrank : rank = 0) (hx : ¬ cost = 0) :
    Calls Tryd.prog 28 #[.agg #[.int .i64 2, .int .u32 src, .int .u32 dst, .int .u32 ksrc, .int .u32 kgrp, .int .i64 rank, .int .i64 cost, .bool only, .slice A n c]] w fun e w' => e = .returned (errV E (some 0)) ∧ Below w.heap.size w w' := by
  have hu := Tryd.underlying86
  have hu2 := Tryd.underlying56
  have hu3 := Tryd.underlying53
  have hlt : 0 < w.heap.size := World.block_lt_of_cell? w _ hE
  simp only [errV] at hE ⊢
  have hbrank : (rank != 0) = false := bne_eq_false_iff_eq.2 hzrank
  clear hzrank
  have hbx : (cost != 0) = true := bne_iff_ne.2 hx
  clear hx
  go_enter Tryd.func28, Tryd.ntmps28
  go_wp2_with (first | (go_at_call 52; refine (grp_yes kgrp _ hg0 hg1).mono ?_; rintro e w2 ⟨rfl, rfl⟩) | go_in)
  go_ret
  exact ⟨rfl, by repeat' (first | exact Below.refl _ _ | (refine below_alloc ?_ _))⟩
set_option maxHeartbeats 2000000 in
set_option maxRecDepth 100000 in
theorem valid2_only (E : Nat → Addr) (src dst ksrc kgrp rank cost : Int) (only : Bool) (A : Option Addr) (n c : Nat) (w : World) (hn4 : n ≤ 4) (hE : w.cell? ⟨0, 0, none⟩ = some (errV E (some 0))) (hr0 : 0 ≤ rank) (hr1 : rank ≤ 65535) (hc0 : 0 ≤ cost) (hc1 : cost ≤ 65535) (hg0 : 3758096384 ≤ kgrp) (hg1 : kgrp ≤ 4026531839) (hzrank : rank = 0) (hzcost : cost = 0) (hx : only = true) :
    Calls Tryd.prog 28 #[.agg #[.int .i64 2, .int .u32 src, .int .u32 dst, .int .u32 ksrc, .int .u32 kgrp, .int .i64 rank, .int .i64 cost, .bool only, .slice A n c]] w fun e w' => e = .returned (errV E (some 0)) ∧ Below w.heap.size w w' := by
  have hu := Tryd.underlying86
  have hu2 := Tryd.underlying56
  have hu3 := Tryd.underlying53
  have hlt : 0 < w.heap.size := World.block_lt_of_cell? w _ hE
  simp only [errV] at hE ⊢
  have hbrank : (rank != 0) = false := bne_eq_false_iff_eq.2 hzrank
  clear hzrank
  have hbcost : (cost != 0) = false := bne_eq_false_iff_eq.2 hzcost
  clear hzcost
  subst hx
  go_enter Tryd.func28, Tryd.ntmps28
  go_wp2_with (first | (go_at_call 52; refine (grp_yes kgrp _ hg0 hg1).mono ?_; rintro e w2 ⟨rfl, rfl⟩) | go_in)
  go_ret
  exact ⟨rfl, by repeat' (first | exact Below.refl _ _ | (refine below_alloc ?_ _))⟩
set_option maxHeartbeats 2000000 in
set_option maxRecDepth 100000 in
theorem valid2_none (E : Nat → Addr) (src dst ksrc kgrp rank cost : Int) (only : Bool) (A : Option Addr) (n c : Nat) (w : World) (hn4 : n ≤ 4) (hE : w.cell? ⟨0, 0, none⟩ = some (errV E (some 0))) (hr0 : 0 ≤ rank) (hr1 : rank ≤ 65535) (hc0 : 0 ≤ cost) (hc1 : cost ≤ 65535) (hg0 : 3758096384 ≤ kgrp) (hg1 : kgrp ≤ 4026531839) (hzrank : rank = 0) (hzcost : cost = 0) (ho : only = false) (hx : 0 < n) :
    Calls Tryd.prog 28 #[.agg #[.int .i64 2, .int .u32 src, .int .u32 dst, .int .u32 ksrc, .int .u32 kgrp, .int .i64 rank, .int .i64 cost, .bool only, .slice A n c]] w fun e w' => e = .returned (errV E (some 0)) ∧ Below w.heap.size w w' := by
  have hu := Tryd.underlying86
  have hu2 := Tryd.underlying56
  have hu3 := Tryd.underlying53
  have hlt : 0 < w.heap.size := World.block_lt_of_cell? w _ hE
  simp only [errV] at hE ⊢
  have hbrank : (rank != 0) = false := bne_eq_false_iff_eq.2 hzrank
  clear hzrank
  have hbcost : (cost != 0) = false := bne_eq_false_iff_eq.2 hzcost
  clear hzcost
  subst ho
  go_enter Tryd.func28, Tryd.ntmps28
  go_wp2_with (first | (go_at_call 52; refine (grp_yes kgrp _ hg0 hg1).mono ?_; rintro e w2 ⟨rfl, rfl⟩) | go_in)
  go_ret
  exact ⟨rfl, by repeat' (first | exact Below.refl _ _ | (refine below_alloc ?_ _))⟩
set_option maxHeartbeats 2000000 in
set_option maxRecDepth 100000 in
theorem valid2_ok (E : Nat → Addr) (src dst ksrc kgrp rank cost : Int) (only : Bool) (A : Option Addr) (n c : Nat) (w : World) (hn4 : n ≤ 4) (hr0 : 0 ≤ rank) (hr1 : rank ≤ 65535) (hc0 : 0 ≤ cost) (hc1 : cost ≤ 65535) (hg0 : 3758096384 ≤ kgrp) (hg1 : kgrp ≤ 4026531839) (hzrank : rank = 0) (hzcost : cost = 0) (ho : only = false) (hn0 : n = 0) :
    Calls Tryd.prog 28 #[.agg #[.int .i64 2, .int .u32 src, .int .u32 dst, .int .u32 ksrc, .int .u32 kgrp, .int .i64 rank, .int .i64 cost, .bool only, .slice A n c]] w fun e w' => e = .returned (.nilIface) ∧ Below w.heap.size w w' := by
  have hu := Tryd.underlying86
  have hu2 := Tryd.underlying56
  have hu3 := Tryd.underlying53
  have hbrank : (rank != 0) = false := bne_eq_false_iff_eq.2 hzrank
  clear hzrank
  have hbcost : (cost != 0) = false := bne_eq_false_iff_eq.2 hzcost
  clear hzcost
  subst ho
  subst hn0
  go_enter Tryd.func28, Tryd.ntmps28
  go_wp2_with (first | (go_at_call 52; refine (grp_yes kgrp _ hg0 hg1).mono ?_; rintro e w2 ⟨rfl, rfl⟩) | go_in)
  go_ret
  exact ⟨rfl, by repeat' (first | exact Below.refl _ _ | (refine below_alloc ?_ _))⟩
end Go.Proofs.YtbgbplbkombfjaaDoor
