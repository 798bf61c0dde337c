/- wire.Valid at any message. -/
import Derived.Test.YtbgbplbkombfjaaDoorWMsg
namespace Go.Proofs.YtbgbplbkombfjaaDoor
open Go.RowKit Go.Proofs.YtbgbplbkombfjaaDoorW.PrintWords SumPlain
set_option linter.unusedVariables false
set_option linter.unusedSimpArgs false
attribute [local go_sem] setCell_drewN alloc_drewN
set_option maxHeartbeats 2000000 in
set_option maxRecDepth 100000 in
theorem valid1_rank (E : Nat → Addr) (src dst ksrc kgrp rank cost : Int) (only : Bool) (A : Option Addr) (n c : Nat) (w : World) (hn4 : n ≤ 4) (hE : w.cell? ⟨0, 0, none⟩ = some (errV E (some 0))) (hx : ¬ (0 ≤ rank ∧ rank ≤ 65535)) :
    Calls Tryd.prog 28 #[.agg #[.int .i64 1, .int .u32 src, .int .u32 dst, .int .u32 ksrc, .int .u32 kgrp, .int .i64 rank, .int .i64 cost, .bool only, .slice A n c]] w fun e w' => e = .returned (errV E (some 0)) ∧ Below w.heap.size w w' := by
  have hu := Tryd.underlying86
  have hu2 := Tryd.underlying56
  have hu3 := Tryd.underlying53
  have hlt : 0 < w.heap.size := World.block_lt_of_cell? w _ hE
  simp only [errV] at hE ⊢
  by_cases hy : rank < 0
  · have hyd : decide (0 ≤ rank) = false := decide_eq_false (by omega)
    clear hx
    go_enter Tryd.func28, Tryd.ntmps28
    go_wp2
    go_ret
    exact ⟨rfl, by repeat' (first | exact Below.refl _ _ | (refine below_alloc ?_ _))⟩
  · have hy0 : 0 ≤ rank := by omega
    have hy1 : 65535 < rank := by omega
    have hyd : decide (rank ≤ 65535) = false := decide_eq_false (by omega)
    clear hx hy
    go_enter Tryd.func28, Tryd.ntmps28
    go_wp2
    go_ret
    exact ⟨rfl, by repeat' (first | exact Below.refl _ _ | (refine below_alloc ?_ _))⟩
set_option maxHeartbeats 2000000 in
set_option maxRecDepth 100000 in
theorem valid1_cost (E : Nat → Addr) (src dst ksrc kgrp rank cost : Int) (only : Bool) (A : Option Addr) (n c : Nat) (w : World) (hn4 : n ≤ 4) (hE : w.cell? ⟨0, 0, none⟩ = some (errV E (some 0))) (hr0 : 0 ≤ rank) (hr1 : rank ≤ 65535) (hx : ¬ (0 ≤ cost ∧ cost ≤ 65535)) :
    Calls Tryd.prog 28 #[.agg #[.int .i64 1, .int .u32 src, .int .u32 dst, .int .u32 ksrc, .int .u32 kgrp, .int .i64 rank, .int .i64 cost, .bool only, .slice A n c]] w fun e w' => e = .returned (errV E (some 0)) ∧ Below w.heap.size w w' := by
  have hu := Tryd.underlying86
  have hu2 := Tryd.underlying56
  have hu3 := Tryd.underlying53
  have hlt : 0 < w.heap.size := World.block_lt_of_cell? w _ hE
  simp only [errV] at hE ⊢
  by_cases hy : cost < 0
  · have hyd : decide (0 ≤ cost) = false := decide_eq_false (by omega)
    clear hx
    go_enter Tryd.func28, Tryd.ntmps28
    go_wp2
    go_ret
    exact ⟨rfl, by repeat' (first | exact Below.refl _ _ | (refine below_alloc ?_ _))⟩
  · have hy0 : 0 ≤ cost := by omega
    have hy1 : 65535 < cost := by omega
    have hyd : decide (cost ≤ 65535) = false := decide_eq_false (by omega)
    clear hx hy
    go_enter Tryd.func28, Tryd.ntmps28
    go_wp2
    go_ret
    exact ⟨rfl, by repeat' (first | exact Below.refl _ _ | (refine below_alloc ?_ _))⟩
set_option maxHeartbeats 2000000 in
set_option maxRecDepth 100000 in
theorem valid1_grp0 (E : Nat → Addr) (src dst ksrc kgrp rank cost : Int) (only : Bool) (A : Option Addr) (n c : Nat) (w : World) (hn4 : n ≤ 4) (hE : w.cell? ⟨0, 0, none⟩ = some (errV E (some 0))) (hr0 : 0 ≤ rank) (hr1 : rank ≤ 65535) (hc0 : 0 ≤ cost) (hc1 : cost ≤ 65535) (hx : ¬ kgrp = 0) :
    Calls Tryd.prog 28 #[.agg #[.int .i64 1, .int .u32 src, .int .u32 dst, .int .u32 ksrc, .int .u32 kgrp, .int .i64 rank, .int .i64 cost, .bool only, .slice A n c]] w fun e w' => e = .returned (errV E (some 0)) ∧ Below w.heap.size w w' := by
  have hu := Tryd.underlying86
  have hu2 := Tryd.underlying56
  have hu3 := Tryd.underlying53
  have hlt : 0 < w.heap.size := World.block_lt_of_cell? w _ hE
  simp only [errV] at hE ⊢
  have hgb : (kgrp != 0) = true := bne_iff_ne.2 hx
  clear hx
  go_enter Tryd.func28, Tryd.ntmps28
  go_wp2
  go_ret
  exact ⟨rfl, by repeat' (first | exact Below.refl _ _ | (refine below_alloc ?_ _))⟩
set_option maxHeartbeats 2000000 in
set_option maxRecDepth 100000 in
theorem valid1_dst (E : Nat → Addr) (src dst ksrc kgrp rank cost : Int) (only : Bool) (A : Option Addr) (n c : Nat) (w : World) (hn4 : n ≤ 4) (hE : w.cell? ⟨0, 0, none⟩ = some (errV E (some 0))) (hr0 : 0 ≤ rank) (hr1 : rank ≤ 65535) (hc0 : 0 ≤ cost) (hc1 : cost ≤ 65535) (hgz : kgrp = 0) (hx : ¬ dst = 0) :
    Calls Tryd.prog 28 #[.agg #[.int .i64 1, .int .u32 src, .int .u32 dst, .int .u32 ksrc, .int .u32 kgrp, .int .i64 rank, .int .i64 cost, .bool only, .slice A n c]] w fun e w' => e = .returned (errV E (some 0)) ∧ Below w.heap.size w w' := by
  have hu := Tryd.underlying86
  have hu2 := Tryd.underlying56
  have hu3 := Tryd.underlying53
  have hlt : 0 < w.heap.size := World.block_lt_of_cell? w _ hE
  simp only [errV] at hE ⊢
  have hgb : (kgrp != 0) = false := bne_eq_false_iff_eq.2 hgz
  clear hgz
  have hbx : (dst != 0) = true := bne_iff_ne.2 hx
  clear hx
  go_enter Tryd.func28, Tryd.ntmps28
  go_wp2
  go_ret
  exact ⟨rfl, by repeat' (first | exact Below.refl _ _ | (refine below_alloc ?_ _))⟩
set_option maxHeartbeats 2000000 in
set_option maxRecDepth 100000 in
theorem valid1_ksrc (E : Nat → Addr) (src dst ksrc kgrp rank cost : Int) (only : Bool) (A : Option Addr) (n c : Nat) (w : World) (hn4 : n ≤ 4) (hE : w.cell? ⟨0, 0, none⟩ = some (errV E (some 0))) (hr0 : 0 ≤ rank) (hr1 : rank ≤ 65535) (hc0 : 0 ≤ cost) (hc1 : cost ≤ 65535) (hgz : kgrp = 0) (hdst : dst = 0) (hx : ¬ ksrc = 0) :
    Calls Tryd.prog 28 #[.agg #[.int .i64 1, .int .u32 src, .int .u32 dst, .int .u32 ksrc, .int .u32 kgrp, .int .i64 rank, .int .i64 cost, .bool only, .slice A n c]] w fun e w' => e = .returned (errV E (some 0)) ∧ Below w.heap.size w w' := by
  have hu := Tryd.underlying86
  have hu2 := Tryd.underlying56
  have hu3 := Tryd.underlying53
  have hlt : 0 < w.heap.size := World.block_lt_of_cell? w _ hE
  simp only [errV] at hE ⊢
  have hgb : (kgrp != 0) = false := bne_eq_false_iff_eq.2 hgz
  clear hgz
  have hbdst : (dst != 0) = false := bne_eq_false_iff_eq.2 hdst
  clear hdst
  have hbx : (ksrc != 0) = true := bne_iff_ne.2 hx
  clear hx
  go_enter Tryd.func28, Tryd.ntmps28
  go_wp2
  go_ret
  exact ⟨rfl, by repeat' (first | exact Below.refl _ _ | (refine below_alloc ?_ _))⟩
set_option maxHeartbeats 2000000 in
set_option maxRecDepth 100000 in
theorem valid1_cost0 (E : Nat → Addr) (src dst ksrc kgrp rank cost : Int) (only : Bool) (A : Option Addr) (n c : Nat) (w : World) (hn4 : n ≤ 4) (hE : w.cell? ⟨0, 0, none⟩ = some (errV E (some 0))) (hr0 : 0 ≤ rank) (hr1 : rank ≤ 65535) (hc0 : 0 ≤ cost) (hc1 : cost ≤ 65535) (hgz : kgrp = 0) (hdst : dst = 0) (hksrc : ksrc = 0) (hx : ¬ cost = 0) :
    Calls Tryd.prog 28 #[.agg #[.int .i64 1, .int .u32 src, .int .u32 dst, .int .u32 ksrc, .int .u32 kgrp, .int .i64 rank, .int .i64 cost, .bool only, .slice A n c]] w fun e w' => e = .returned (errV E (some 0)) ∧ Below w.heap.size w w' := by
  have hu := Tryd.underlying86
  have hu2 := Tryd.underlying56
  have hu3 := Tryd.underlying53
  have hlt : 0 < w.heap.size := World.block_lt_of_cell? w _ hE
  simp only [errV] at hE ⊢
  have hgb : (kgrp != 0) = false := bne_eq_false_iff_eq.2 hgz
  clear hgz
  have hbdst : (dst != 0) = false := bne_eq_false_iff_eq.2 hdst
  clear hdst
  have hbksrc : (ksrc != 0) = false := bne_eq_false_iff_eq.2 hksrc
  clear hksrc
  have hbx : (cost != 0) = true := bne_iff_ne.2 hx
  clear hx
  go_enter Tryd.func28, Tryd.ntmps28
  go_wp2
  go_ret
  exact ⟨rfl, by repeat' (first | exact Below.refl _ _ | (refine below_alloc ?_ _))⟩
set_option maxHeartbeats 2000000 in
set_option maxRecDepth 100000 in
theorem valid1_only (E : Nat → Addr) (src dst ksrc kgrp rank cost : Int) (only : Bool) (A : Option Addr) (n c : Nat) (w : World) (hn4 : n ≤ 4) (hE : w.cell? ⟨0, 0, none⟩ = some (errV E (some 0))) (hr0 : 0 ≤ rank) (hr1 : rank ≤ 65535) (hc0 : 0 ≤ cost) (hc1 : cost ≤ 65535) (hgz : kgrp = 0) (hdst : dst = 0) (hksrc : ksrc = 0) (hzcost : cost = 0) (hx : only = true) :
    Calls Tryd.prog 28 #[.agg #[.int .i64 1, .int .u32 src, .int .u32 dst, .int .u32 ksrc, .int .u32 kgrp, .int .i64 rank, .int .i64 cost, .bool only, .slice A n c]] w fun e w' => e = .returned (errV E (some 0)) ∧ Below w.heap.size w w' := by
  have hu := Tryd.underlying86
  have hu2 := Tryd.underlying56
  have hu3 := Tryd.underlying53
  have hlt : 0 < w.heap.size := World.block_lt_of_cell? w _ hE
  simp only [errV] at hE ⊢
  have hgb : (kgrp != 0) = false := bne_eq_false_iff_eq.2 hgz
  clear hgz
  have hbdst : (dst != 0) = false := bne_eq_false_iff_eq.2 hdst
  clear hdst
  have hbksrc : (ksrc != 0) = false := bne_eq_false_iff_eq.2 hksrc
  clear hksrc
  have hbcost : (cost != 0) = false := bne_eq_false_iff_eq.2 hzcost
  clear hzcost
  subst hx
  go_enter Tryd.func28, Tryd.ntmps28
  go_wp2
  go_ret
  exact ⟨rfl, by repeat' (first | exact Below.refl _ _ | (refine below_alloc ?_ _))⟩
set_option maxHeartbeats 2000000 in
set_option maxRecDepth 100000 in
theorem valid1_none (E : Nat → Addr) (src dst ksrc kgrp rank cost : Int) (only : Bool) (A : Option Addr) (n c : Nat) (w : World) (hn4 : n ≤ 4) (hE : w.cell? ⟨0, 0, none⟩ = some (errV E (some 0))) (hr0 : 0 ≤ rank) (hr1 : rank ≤ 65535) (hc0 : 0 ≤ cost) (hc1 : cost ≤ 65535) (hgz : kgrp = 0) (hdst : dst = 0) (hksrc : ksrc = 0) (hzcost : cost = 0) (ho : only = false) (hx : 0 < n) :
    Calls Tryd.prog 28 #[.agg #[.int .i64 1, .int .u32 src, .int .u32 dst, .int .u32 ksrc, .int .u32 kgrp, .int .i64 rank, .int .i64 cost, .bool only, .slice A n c]] w fun e w' => e = .returned (errV E (some 0)) ∧ Below w.heap.size w w' := by
  have hu := Tryd.underlying86
  have hu2 := Tryd.underlying56
  have hu3 := Tryd.underlying53
  have hlt : 0 < w.heap.size := World.block_lt_of_cell? w _ hE
  simp only [errV] at hE ⊢
  have hgb : (kgrp != 0) = false := bne_eq_false_iff_eq.2 hgz
  clear hgz
  have hbdst : (dst != 0) = false := bne_eq_false_iff_eq.2 hdst
  clear hdst
  have hbksrc : (ksrc != 0) = false := bne_eq_false_iff_eq.2 hksrc
  clear hksrc
  have hbcost : (cost != 0) = false := bne_eq_false_iff_eq.2 hzcost
  clear hzcost
  subst ho
  go_enter Tryd.func28, Tryd.ntmps28
  go_wp2
  go_ret
  exact ⟨rfl, by repeat' (first | exact Below.refl _ _ | (refine below_alloc ?_ _))⟩
set_option maxHeartbeats 2000000 in
set_option maxRecDepth 100000 in
theorem valid1_ok (E : Nat → Addr) (src dst ksrc kgrp rank cost : Int) (only : Bool) (A : Option Addr) (n c : Nat) (w : World) (hn4 : n ≤ 4) (hr0 : 0 ≤ rank) (hr1 : rank ≤ 65535) (hc0 : 0 ≤ cost) (hc1 : cost ≤ 65535) (hgz : kgrp = 0) (hdst : dst = 0) (hksrc : ksrc = 0) (hzcost : cost = 0) (ho : only = false) (hn0 : n = 0) :
    Calls Tryd.prog 28 #[.agg #[.int .i64 1, .int .u32 src, .int .u32 dst, .int .u32 ksrc, .int .u32 kgrp, .int .i64 rank, .int .i64 cost, .bool only, .slice A n c]] w fun e w' => e = .returned (.nilIface) ∧ Below w.heap.size w w' := by
  have hu := Tryd.underlying86
  have hu2 := Tryd.underlying56
  have hu3 := Tryd.underlying53
  have hgb : (kgrp != 0) = false := bne_eq_false_iff_eq.2 hgz
  clear hgz
  have hbdst : (dst != 0) = false := bne_eq_false_iff_eq.2 hdst
  clear hdst
  have hbksrc : (ksrc != 0) = false := bne_eq_false_iff_eq.2 hksrc
  clear hksrc
  have hbcost : (cost != 0) = false := bne_eq_false_iff_eq.2 hzcost
  clear hzcost
  subst ho
  subst hn0
  go_enter Tryd.func28, Tryd.ntmps28
  go_wp2
  go_ret
  exact ⟨rfl, by repeat' (first | exact Below.refl _ _ | (refine below_alloc ?_ _))⟩
end Go.Proofs.YtbgbplbkombfjaaDoor
namespace Go.Proofs.YtbgbplbkombfjaaDoor
open Go.RowKit Go.Proofs.YtbgbplbkombfjaaDoorW.PrintWords SumPlain
set_option linter.unusedVariables false
set_option linter.unusedSimpArgs false
attribute [local go_sem] setCell_drewN alloc_drewN
set_option maxHeartbeats 2000000 in
set_option maxRecDepth 100000 in
theorem valid2_rank (E : Nat → Addr) (src dst ksrc kgrp rank cost : Int) (only : Bool) (A : Option Addr) (n c : Nat) (w : World) (hn4 : n ≤ 4) (hE : w.cell? ⟨0, 0, none⟩ = some (errV E (some 0))) (hx : ¬ (0 ≤ rank ∧ rank ≤ 65535)) :
    Calls Tryd.prog 28 #[.agg #[.int .i64 2, .int .u32 src, .int .u32 dst, .int .u32 ksrc, .int .u32 kgrp, .int .i64 rank, .int .i64 cost, .bool only, .slice A n c]] w fun e w' => e = .returned (errV E (some 0)) ∧ Below w.heap.size w w' := by
  have hu := Tryd.underlying86
  have hu2 := Tryd.underlying56
  have hu3 := Tryd.underlying53
  have hlt : 0 < w.heap.size := World.block_lt_of_cell? w _ hE
  simp only [errV] at hE ⊢
  by_cases hy : rank < 0
  · have hyd : decide (0 ≤ rank) = false := decide_eq_false (by omega)
    clear hx
    go_enter Tryd.func28, Tryd.ntmps28
    go_wp2
    go_ret
    exact ⟨rfl, by repeat' (first | exact Below.refl _ _ | (refine below_alloc ?_ _))⟩
  · have hy0 : 0 ≤ rank := by omega
    have hy1 : 65535 < rank := by omega
    have hyd : decide (rank ≤ 65535) = false := decide_eq_false (by omega)
    clear hx hy
    go_enter Tryd.func28, Tryd.ntmps28
    go_wp2
    go_ret
    exact ⟨rfl, by repeat' (first | exact Below.refl _ _ | (refine below_alloc ?_ _))⟩
set_option maxHeartbeats 2000000 in
set_option maxRecDepth 100000 in
theorem valid2_cost (E : Nat → Addr) (src dst ksrc kgrp rank cost : Int) (only : Bool) (A : Option Addr) (n c : Nat) (w : World) (hn4 : n ≤ 4) (hE : w.cell? ⟨0, 0, none⟩ = some (errV E (some 0))) (hr0 : 0 ≤ rank) (hr1 : rank ≤ 65535) (hx : ¬ (0 ≤ cost ∧ cost ≤ 65535)) :
    Calls Tryd.prog 28 #[.agg #[.int .i64 2, .int .u32 src, .int .u32 dst, .int .u32 ksrc, .int .u32 kgrp, .int .i64 rank, .int .i64 cost, .bool only, .slice A n c]] w fun e w' => e = .returned (errV E (some 0)) ∧ Below w.heap.size w w' := by
  have hu := Tryd.underlying86
  have hu2 := Tryd.underlying56
  have hu3 := Tryd.underlying53
  have hlt : 0 < w.heap.size := World.block_lt_of_cell? w _ hE
  simp only [errV] at hE ⊢
  by_cases hy : cost < 0
  · have hyd : decide (0 ≤ cost) = false := decide_eq_false (by omega)
    clear hx
    go_enter Tryd.func28, Tryd.ntmps28
    go_wp2
    go_ret
    exact ⟨rfl, by repeat' (first | exact Below.refl _ _ | (refine below_alloc ?_ _))⟩
  · have hy0 : 0 ≤ cost := by omega
    have hy1 : 65535 < cost := by omega
    have hyd : decide (cost ≤ 65535) = false := decide_eq_false (by omega)
    clear hx hy
    go_enter Tryd.func28, Tryd.ntmps28
    go_wp2
    go_ret
    exact ⟨rfl, by repeat' (first | exact Below.refl _ _ | (refine below_alloc ?_ _))⟩
set_option maxHeartbeats 2000000 in
set_option maxRecDepth 100000 in
theorem valid2_grp (E : Nat → Addr) (src dst ksrc kgrp rank cost : Int) (only : Bool) (A : Option Addr) (n c : Nat) (w : World) (hn4 : n ≤ 4) (hE : w.cell? ⟨0, 0, none⟩ = some (errV E (some 0))) (hr0 : 0 ≤ rank) (hr1 : rank ≤ 65535) (hc0 : 0 ≤ cost) (hc1 : cost ≤ 65535) (hw0 : 0 ≤ kgrp) (hw1 : kgrp < 4294967296) (hgn : ¬ (3758096384 ≤ kgrp ∧ kgrp ≤ 4026531839)) :
    Calls Tryd.prog 28 #[.agg #[.int .i64 2, .int .u32 src, .int .u32 dst, .int .u32 ksrc, .int .u32 kgrp, .int .i64 rank, .int .i64 cost, .bool only, .slice A n c]] w fun e w' => e = .returned (errV E (some 0)) ∧ Below w.heap.size w w' := by
  have hu := Tryd.underlying86
  have hu2 := Tryd.underlying56
  have hu3 := Tryd.underlying53
  have hlt : 0 < w.heap.size := World.block_lt_of_cell? w _ hE
  simp only [errV] at hE ⊢
  go_enter Tryd.func28, Tryd.ntmps28
  go_wp2_with (first | (go_at_call 52; refine (grp_no kgrp _ hw0 hw1 hgn).mono ?_; rintro e w2 ⟨rfl, rfl⟩) | go_in)
  go_ret
  exact ⟨rfl, by repeat' (first | exact Below.refl _ _ | (refine below_alloc ?_ _))⟩
set_option maxHeartbeats 2000000 in
set_option maxRecDepth 100000 in
theorem valid2_rank0 (E : Nat → Addr) (src dst ksrc kgrp rank cost : Int) (only : Bool) (A : Option Addr) (n c : Nat) (w : World) (hn4 : n ≤ 4) (hE : w.cell? ⟨0, 0, none⟩ = some (errV E (some 0))) (hr0 : 0 ≤ rank) (hr1 : rank ≤ 65535) (hc0 : 0 ≤ cost) (hc1 : cost ≤ 65535) (hg0 : 3758096384 ≤ kgrp) (hg1 : kgrp ≤ 4026531839) (hx : ¬ rank = 0) :
    Calls Tryd.prog 28 #[.agg #[.int .i64 2, .int .u32 src, .int .u32 dst, .int .u32 ksrc, .int .u32 kgrp, .int .i64 rank, .int .i64 cost, .bool only, .slice A n c]] w fun e w' => e = .returned (errV E (some 0)) ∧ Below w.heap.size w w' := by
  have hu := Tryd.underlying86
  have hu2 := Tryd.underlying56
  have hu3 := Tryd.underlying53
  have hlt : 0 < w.heap.size := World.block_lt_of_cell? w _ hE
  simp only [errV] at hE ⊢
  have hbx : (rank != 0) = true := bne_iff_ne.2 hx
  clear hx
  go_enter Tryd.func28, Tryd.ntmps28
  go_wp2_with (first | (go_at_call 52; refine (grp_yes kgrp _ hg0 hg1).mono ?_; rintro e w2 ⟨rfl, rfl⟩) | go_in)
  go_ret
  exact ⟨rfl, by repeat' (first | exact Below.refl _ _ | (refine below_alloc ?_ _))⟩
set_option maxHeartbeats 2000000 in
set_option maxRecDepth 100000 in
theorem valid2_cost0 (E : Nat → Addr) (src dst ksrc kgrp rank cost : Int) (only : Bool) (A : Option Addr) (n c : Nat) (w : World) (hn4 : n ≤ 4) (hE : w.cell? ⟨0, 0, none⟩ = some (errV E (some 0))) (hr0 : 0 ≤ rank) (hr1 : rank ≤ 65535) (hc0 : 0 ≤ cost) (hc1 : cost ≤ 65535) (hg0 : 3758096384 ≤ kgrp) (hg1 : kgrp ≤ 4026531839) (hzrank : rank = 0) (hx : ¬ cost = 0) :
    Calls Tryd.prog 28 #[.agg #[.int .i64 2, .int .u32 src, .int .u32 dst, .int .u32 ksrc, .int .u32 kgrp, .int .i64 rank, .int .i64 cost, .bool only, .slice A n c]] w fun e w' => e = .returned (errV E (some 0)) ∧ Below w.heap.size w w' := by
  have hu := Tryd.underlying86
  have hu2 := Tryd.underlying56
  have hu3 := Tryd.underlying53
  have hlt : 0 < w.heap.size := World.block_lt_of_cell? w _ hE
  simp only [errV] at hE ⊢
  have hbrank : (rank != 0) = false := bne_eq_false_iff_eq.2 hzrank
  clear hzrank
  have hbx : (cost != 0) = true := bne_iff_ne.2 hx
  clear hx
  go_enter Tryd.func28, Tryd.ntmps28
  go_wp2_with (first | (go_at_call 52; refine (grp_yes kgrp _ hg0 hg1).mono ?_; rintro e w2 ⟨rfl, rfl⟩) | go_in)
  go_ret
  exact ⟨rfl, by repeat' (first | exact Below.refl _ _ | (refine below_alloc ?_ _))⟩
set_option maxHeartbeats 2000000 in
set_option maxRecDepth 100000 in
theorem valid2_only (E : Nat → Addr) (src dst ksrc kgrp rank cost : Int) (only : Bool) (A : Option Addr) (n c : Nat) (w : World) (hn4 : n ≤ 4) (hE : w.cell? ⟨0, 0, none⟩ = some (errV E (some 0))) (hr0 : 0 ≤ rank) (hr1 : rank ≤ 65535) (hc0 : 0 ≤ cost) (hc1 : cost ≤ 65535) (hg0 : 3758096384 ≤ kgrp) (hg1 : kgrp ≤ 4026531839) (hzrank : rank = 0) (hzcost : cost = 0) (hx : only = true) :
    Calls Tryd.prog 28 #[.agg #[.int .i64 2, .int .u32 src, .int .u32 dst, .int .u32 ksrc, .int .u32 kgrp, .int .i64 rank, .int .i64 cost, .bool only, .slice A n c]] w fun e w' => e = .returned (errV E (some 0)) ∧ Below w.heap.size w w' := by
  have hu := Tryd.underlying86
  have hu2 := Tryd.underlying56
  have hu3 := Tryd.underlying53
  have hlt : 0 < w.heap.size := World.block_lt_of_cell? w _ hE
  simp only [errV] at hE ⊢
  have hbrank : (rank != 0) = false := bne_eq_false_iff_eq.2 hzrank
  clear hzrank
  have hbcost : (cost != 0) = false := bne_eq_false_iff_eq.2 hzcost
  clear hzcost
  subst hx
  go_enter Tryd.func28, Tryd.ntmps28
  go_wp2_with (first | (go_at_call 52; refine (grp_yes kgrp _ hg0 hg1).mono ?_; rintro e w2 ⟨rfl, rfl⟩) | go_in)
  go_ret
  exact ⟨rfl, by repeat' (first | exact Below.refl _ _ | (refine below_alloc ?_ _))⟩
set_option maxHeartbeats 2000000 in
set_option maxRecDepth 100000 in
theorem valid2_none (E : Nat → Addr) (src dst ksrc kgrp rank cost : Int) (only : Bool) (A : Option Addr) (n c : Nat) (w : World) (hn4 : n ≤ 4) (hE : w.cell? ⟨0, 0, none⟩ = some (errV E (some 0))) (hr0 : 0 ≤ rank) (hr1 : rank ≤ 65535) (hc0 : 0 ≤ cost) (hc1 : cost ≤ 65535) (hg0 : 3758096384 ≤ kgrp) (hg1 : kgrp ≤ 4026531839) (hzrank : rank = 0) (hzcost : cost = 0) (ho : only = false) (hx : 0 < n) :
    Calls Tryd.prog 28 #[.agg #[.int .i64 2, .int .u32 src, .int .u32 dst, .int .u32 ksrc, .int .u32 kgrp, .int .i64 rank, .int .i64 cost, .bool only, .slice A n c]] w fun e w' => e = .returned (errV E (some 0)) ∧ Below w.heap.size w w' := by
  have hu := Tryd.underlying86
  have hu2 := Tryd.underlying56
  have hu3 := Tryd.underlying53
  have hlt : 0 < w.heap.size := World.block_lt_of_cell? w _ hE
  simp only [errV] at hE ⊢
  have hbrank : (rank != 0) = false := bne_eq_false_iff_eq.2 hzrank
  clear hzrank
  have hbcost : (cost != 0) = false := bne_eq_false_iff_eq.2 hzcost
  clear hzcost
  subst ho
  go_enter Tryd.func28, Tryd.ntmps28
  go_wp2_with (first | (go_at_call 52; refine (grp_yes kgrp _ hg0 hg1).mono ?_; rintro e w2 ⟨rfl, rfl⟩) | go_in)
  go_ret
  exact ⟨rfl, by repeat' (first | exact Below.refl _ _ | (refine below_alloc ?_ _))⟩
set_option maxHeartbeats 2000000 in
set_option maxRecDepth 100000 in
theorem valid2_ok (E : Nat → Addr) (src dst ksrc kgrp rank cost : Int) (only : Bool) (A : Option Addr) (n c : Nat) (w : World) (hn4 : n ≤ 4) (hr0 : 0 ≤ rank) (hr1 : rank ≤ 65535) (hc0 : 0 ≤ cost) (hc1 : cost ≤ 65535) (hg0 : 3758096384 ≤ kgrp) (hg1 : kgrp ≤ 4026531839) (hzrank : rank = 0) (hzcost : cost = 0) (ho : only = false) (hn0 : n = 0) :
    Calls Tryd.prog 28 #[.agg #[.int .i64 2, .int .u32 src, .int .u32 dst, .int .u32 ksrc, .int .u32 kgrp, .int .i64 rank, .int .i64 cost, .bool only, .slice A n c]] w fun e w' => e = .returned (.nilIface) ∧ Below w.heap.size w w' := by
  have hu := Tryd.underlying86
  have hu2 := Tryd.underlying56
  have hu3 := Tryd.underlying53
  have hbrank : (rank != 0) = false := bne_eq_false_iff_eq.2 hzrank
  clear hzrank
  have hbcost : (cost != 0) = false := bne_eq_false_iff_eq.2 hzcost
  clear hzcost
  subst ho
  subst hn0
  go_enter Tryd.func28, Tryd.ntmps28
  go_wp2_with (first | (go_at_call 52; refine (grp_yes kgrp _ hg0 hg1).mono ?_; rintro e w2 ⟨rfl, rfl⟩) | go_in)
  go_ret
  exact ⟨rfl, by repeat' (first | exact Below.refl _ _ | (refine below_alloc ?_ _))⟩
end Go.Proofs.YtbgbplbkombfjaaDoor
namespace Go.Proofs.YtbgbplbkombfjaaDoor
open Go.RowKit Go.Proofs.YtbgbplbkombfjaaDoorW.PrintWords SumPlain
set_option linter.unusedVariables false
set_option linter.unusedSimpArgs false
attribute [local go_sem] setCell_drewN alloc_drewN
set_option maxHeartbeats 2000000 in
set_option maxRecDepth 100000 in
theorem valid3_rank (E : Nat → Addr) (src dst ksrc kgrp rank cost : Int) (only : Bool) (A : Option Addr) (n c : Nat) (w : World) (hn4 : n ≤ 4) (hE : w.cell? ⟨0, 0, none⟩ = some (errV E (some 0))) (hx : ¬ (0 ≤ rank ∧ rank ≤ 65535)) :
    Calls Tryd.prog 28 #[.agg #[.int .i64 3, .int .u32 src, .int .u32 dst, .int .u32 ksrc, .int .u32 kgrp, .int .i64 rank, .int .i64 cost, .bool only, .slice A n c]] w fun e w' => e = .returned (errV E (some 0)) ∧ Below w.heap.size w w' := by
  have hu := Tryd.underlying86
  have hu2 := Tryd.underlying56
  have hu3 := Tryd.underlying53
  have hlt : 0 < w.heap.size := World.block_lt_of_cell? w _ hE
  simp only [errV] at hE ⊢
  by_cases hy : rank < 0
  · have hyd : decide (0 ≤ rank) = false := decide_eq_false (by omega)
    clear hx
    go_enter Tryd.func28, Tryd.ntmps28
    go_wp2
    go_ret
    exact ⟨rfl, by repeat' (first | exact Below.refl _ _ | (refine below_alloc ?_ _))⟩
  · have hy0 : 0 ≤ rank := by omega
    have hy1 : 65535 < rank := by omega
    have hyd : decide (rank ≤ 65535) = false := decide_eq_false (by omega)
    clear hx hy
    go_enter Tryd.func28, Tryd.ntmps28
    go_wp2
    go_ret
    exact ⟨rfl, by repeat' (first | exact Below.refl _ _ | (refine below_alloc ?_ _))⟩
set_option maxHeartbeats 2000000 in
set_option maxRecDepth 100000 in
theorem valid3_cost (E : Nat → Addr) (src dst ksrc kgrp rank cost : Int) (only : Bool) (A : Option Addr) (n c : Nat) (w : World) (hn4 : n ≤ 4) (hE : w.cell? ⟨0, 0, none⟩ = some (errV E (some 0))) (hr0 : 0 ≤ rank) (hr1 : rank ≤ 65535) (hx : ¬ (0 ≤ cost ∧ cost ≤ 65535)) :
    Calls Tryd.prog 28 #[.agg #[.int .i64 3, .int .u32 src, .int .u32 dst, .int .u32 ksrc, .int .u32 kgrp, .int .i64 rank, .int .i64 cost, .bool only, .slice A n c]] w fun e w' => e = .returned (errV E (some 0)) ∧ Below w.heap.size w w' := by
  have hu := Tryd.underlying86
  have hu2 := Tryd.underlying56
  have hu3 := Tryd.underlying53
  have hlt : 0 < w.heap.size := World.block_lt_of_cell? w _ hE
  simp only [errV] at hE ⊢
  by_cases hy : cost < 0
  · have hyd : decide (0 ≤ cost) = false := decide_eq_false (by omega)
    clear hx
    go_enter Tryd.func28, Tryd.ntmps28
    go_wp2
    go_ret
    exact ⟨rfl, by repeat' (first | exact Below.refl _ _ | (refine below_alloc ?_ _))⟩
  · have hy0 : 0 ≤ cost := by omega
    have hy1 : 65535 < cost := by omega
    have hyd : decide (cost ≤ 65535) = false := decide_eq_false (by omega)
    clear hx hy
    go_enter Tryd.func28, Tryd.ntmps28
    go_wp2
    go_ret
    exact ⟨rfl, by repeat' (first | exact Below.refl _ _ | (refine below_alloc ?_ _))⟩
set_option maxHeartbeats 2000000 in
set_option maxRecDepth 100000 in
theorem valid3_grp (E : Nat → Addr) (src dst ksrc kgrp rank cost : Int) (only : Bool) (A : Option Addr) (n c : Nat) (w : World) (hn4 : n ≤ 4) (hE : w.cell? ⟨0, 0, none⟩ = some (errV E (some 0))) (hr0 : 0 ≤ rank) (hr1 : rank ≤ 65535) (hc0 : 0 ≤ cost) (hc1 : cost ≤ 65535) (hw0 : 0 ≤ kgrp) (hw1 : kgrp < 4294967296) (hgn : ¬ (3758096384 ≤ kgrp ∧ kgrp ≤ 4026531839)) :
    Calls Tryd.prog 28 #[.agg #[.int .i64 3, .int .u32 src, .int .u32 dst, .int .u32 ksrc, .int .u32 kgrp, .int .i64 rank, .int .i64 cost, .bool only, .slice A n c]] w fun e w' => e = .returned (errV E (some 0)) ∧ Below w.heap.size w w' := by
  have hu := Tryd.underlying86
  have hu2 := Tryd.underlying56
  have hu3 := Tryd.underlying53
  have hlt : 0 < w.heap.size := World.block_lt_of_cell? w _ hE
  simp only [errV] at hE ⊢
  go_enter Tryd.func28, Tryd.ntmps28
  go_wp2_with (first | (go_at_call 52; refine (grp_no kgrp _ hw0 hw1 hgn).mono ?_; rintro e w2 ⟨rfl, rfl⟩) | go_in)
  go_ret
  exact ⟨rfl, by repeat' (first | exact Below.refl _ _ | (refine below_alloc ?_ _))⟩
set_option maxHeartbeats 2000000 in
set_option maxRecDepth 100000 in
theorem valid3_dst (E : Nat → Addr) (src dst ksrc kgrp rank cost : Int) (only : Bool) (A : Option Addr) (n c : Nat) (w : World) (hn4 : n ≤ 4) (hE : w.cell? ⟨0, 0, none⟩ = some (errV E (some 0))) (hr0 : 0 ≤ rank) (hr1 : rank ≤ 65535) (hc0 : 0 ≤ cost) (hc1 : cost ≤ 65535) (hg0 : 3758096384 ≤ kgrp) (hg1 : kgrp ≤ 4026531839) (hx : ¬ dst = 0) :
    Calls Tryd.prog 28 #[.agg #[.int .i64 3, .int .u32 src, .int .u32 dst, .int .u32 ksrc, .int .u32 kgrp, .int .i64 rank, .int .i64 cost, .bool only, .slice A n c]] w fun e w' => e = .returned (errV E (some 0)) ∧ Below w.heap.size w w' := by
  have hu := Tryd.underlying86
  have hu2 := Tryd.underlying56
  have hu3 := Tryd.underlying53
  have hlt : 0 < w.heap.size := World.block_lt_of_cell? w _ hE
  simp only [errV] at hE ⊢
  have hbx : (dst != 0) = true := bne_iff_ne.2 hx
  clear hx
  go_enter Tryd.func28, Tryd.ntmps28
  go_wp2_with (first | (go_at_call 52; refine (grp_yes kgrp _ hg0 hg1).mono ?_; rintro e w2 ⟨rfl, rfl⟩) | go_in)
  go_ret
  exact ⟨rfl, by repeat' (first | exact Below.refl _ _ | (refine below_alloc ?_ _))⟩
set_option maxHeartbeats 2000000 in
set_option maxRecDepth 100000 in
theorem valid3_rank0 (E : Nat → Addr) (src dst ksrc kgrp rank cost : Int) (only : Bool) (A : Option Addr) (n c : Nat) (w : World) (hn4 : n ≤ 4) (hE : w.cell? ⟨0, 0, none⟩ = some (errV E (some 0))) (hr0 : 0 ≤ rank) (hr1 : rank ≤ 65535) (hc0 : 0 ≤ cost) (hc1 : cost ≤ 65535) (hg0 : 3758096384 ≤ kgrp) (hg1 : kgrp ≤ 4026531839) (hdst : dst = 0) (hx : ¬ rank = 0) :
    Calls Tryd.prog 28 #[.agg #[.int .i64 3, .int .u32 src, .int .u32 dst, .int .u32 ksrc, .int .u32 kgrp, .int .i64 rank, .int .i64 cost, .bool only, .slice A n c]] w fun e w' => e = .returned (errV E (some 0)) ∧ Below w.heap.size w w' := by
  have hu := Tryd.underlying86
  have hu2 := Tryd.underlying56
  have hu3 := Tryd.underlying53
  have hlt : 0 < w.heap.size := World.block_lt_of_cell? w _ hE
  simp only [errV] at hE ⊢
  have hbdst : (dst != 0) = false := bne_eq_false_iff_eq.2 hdst
  clear hdst
  have hbx : (rank != 0) = true := bne_iff_ne.2 hx
  clear hx
  go_enter Tryd.func28, Tryd.ntmps28
  go_wp2_with (first | (go_at_call 52; refine (grp_yes kgrp _ hg0 hg1).mono ?_; rintro e w2 ⟨rfl, rfl⟩) | go_in)
  go_ret
  exact ⟨rfl, by repeat' (first | exact Below.refl _ _ | (refine below_alloc ?_ _))⟩
set_option maxHeartbeats 2000000 in
set_option maxRecDepth 100000 in
theorem valid3_only (E : Nat → Addr) (src dst ksrc kgrp rank cost : Int) (only : Bool) (A : Option Addr) (n c : Nat) (w : World) (hn4 : n ≤ 4) (hE : w.cell? ⟨0, 0, none⟩ = some (errV E (some 0))) (hr0 : 0 ≤ rank) (hr1 : rank ≤ 65535) (hc0 : 0 ≤ cost) (hc1 : cost ≤ 65535) (hg0 : 3758096384 ≤ kgrp) (hg1 : kgrp ≤ 4026531839) (hdst : dst = 0) (hzrank : rank = 0) (hx : only = true) :
    Calls Tryd.prog 28 #[.agg #[.int .i64 3, .int .u32 src, .int .u32 dst, .int .u32 ksrc, .int .u32 kgrp, .int .i64 rank, .int .i64 cost, .bool only, .slice A n c]] w fun e w' => e = .returned (errV E (some 0)) ∧ Below w.heap.size w w' := by
  have hu := Tryd.underlying86
  have hu2 := Tryd.underlying56
  have hu3 := Tryd.underlying53
  have hlt : 0 < w.heap.size := World.block_lt_of_cell? w _ hE
  simp only [errV] at hE ⊢
  have hbdst : (dst != 0) = false := bne_eq_false_iff_eq.2 hdst
  clear hdst
  have hbrank : (rank != 0) = false := bne_eq_false_iff_eq.2 hzrank
  clear hzrank
  subst hx
  go_enter Tryd.func28, Tryd.ntmps28
  go_wp2_with (first | (go_at_call 52; refine (grp_yes kgrp _ hg0 hg1).mono ?_; rintro e w2 ⟨rfl, rfl⟩) | go_in)
  go_ret
  exact ⟨rfl, by repeat' (first | exact Below.refl _ _ | (refine below_alloc ?_ _))⟩
set_option maxHeartbeats 2000000 in
set_option maxRecDepth 100000 in
theorem valid3_none (E : Nat → Addr) (src dst ksrc kgrp rank cost : Int) (only : Bool) (A : Option Addr) (n c : Nat) (w : World) (hn4 : n ≤ 4) (hE : w.cell? ⟨0, 0, none⟩ = some (errV E (some 0))) (hr0 : 0 ≤ rank) (hr1 : rank ≤ 65535) (hc0 : 0 ≤ cost) (hc1 : cost ≤ 65535) (hg0 : 3758096384 ≤ kgrp) (hg1 : kgrp ≤ 4026531839) (hdst : dst = 0) (hzrank : rank = 0) (ho : only = false) (hx : 0 < n) :
    Calls Tryd.prog 28 #[.agg #[.int .i64 3, .int .u32 src, .int .u32 dst, .int .u32 ksrc, .int .u32 kgrp, .int .i64 rank, .int .i64 cost, .bool only, .slice A n c]] w fun e w' => e = .returned (errV E (some 0)) ∧ Below w.heap.size w w' := by
  have hu := Tryd.underlying86
  have hu2 := Tryd.underlying56
  have hu3 := Tryd.underlying53
  have hlt : 0 < w.heap.size := World.block_lt_of_cell? w _ hE
  simp only [errV] at hE ⊢
  have hbdst : (dst != 0) = false := bne_eq_false_iff_eq.2 hdst
  clear hdst
  have hbrank : (rank != 0) = false := bne_eq_false_iff_eq.2 hzrank
  clear hzrank
  subst ho
  go_enter Tryd.func28, Tryd.ntmps28
  go_wp2_with (first | (go_at_call 52; refine (grp_yes kgrp _ hg0 hg1).mono ?_; rintro e w2 ⟨rfl, rfl⟩) | go_in)
  go_ret
  exact ⟨rfl, by repeat' (first | exact Below.refl _ _ | (refine below_alloc ?_ _))⟩
set_option maxHeartbeats 2000000 in
set_option maxRecDepth 100000 in
theorem valid3_ok (E : Nat → Addr) (src dst ksrc kgrp rank cost : Int) (only : Bool) (A : Option Addr) (n c : Nat) (w : World) (hn4 : n ≤ 4) (hr0 : 0 ≤ rank) (hr1 : rank ≤ 65535) (hc0 : 0 ≤ cost) (hc1 : cost ≤ 65535) (hg0 : 3758096384 ≤ kgrp) (hg1 : kgrp ≤ 4026531839) (hdst : dst = 0) (hzrank : rank = 0) (ho : only = false) (hn0 : n = 0) :
    Calls Tryd.prog 28 #[.agg #[.int .i64 3, .int .u32 src, .int .u32 dst, .int .u32 ksrc, .int .u32 kgrp, .int .i64 rank, .int .i64 cost, .bool only, .slice A n c]] w fun e w' => e = .returned (.nilIface) ∧ Below w.heap.size w w' := by
  have hu := Tryd.underlying86
  have hu2 := Tryd.underlying56
  have hu3 := Tryd.underlying53
  have hbdst : (dst != 0) = false := bne_eq_false_iff_eq.2 hdst
  clear hdst
  have hbrank : (rank != 0) = false := bne_eq_false_iff_eq.2 hzrank
  clear hzrank
  subst ho
  subst hn0
  go_enter Tryd.func28, Tryd.ntmps28
  go_wp2_with (first | (go_at_call 52; refine (grp_yes kgrp _ hg0 hg1).mono ?_; rintro e w2 ⟨rfl, rfl⟩) | go_in)
  go_ret
  exact ⟨rfl, by repeat' (first | exact Below.refl _ _ | (refine below_alloc ?_ _))⟩
end Go.Proofs.YtbgbplbkombfjaaDoor
namespace Go.Proofs.YtbgbplbkombfjaaDoor
open Go.RowKit Go.Proofs.YtbgbplbkombfjaaDoorW.PrintWords SumPlain
set_option linter.unusedVariables false
set_option linter.unusedSimpArgs false
attribute [local go_sem] setCell_drewN alloc_drewN
set_option maxHeartbeats 2000000 in
set_option maxRecDepth 100000 in
theorem valid4_rank (E : Nat → Addr) (src dst ksrc kgrp rank cost : Int) (only : Bool) (A : Option Addr) (n c : Nat) (w : World) (hn4 : n ≤ 4) (hE : w.cell? ⟨0, 0, none⟩ = some (errV E (some 0))) (hx : ¬ (0 ≤ rank ∧ rank ≤ 65535)) :
    Calls Tryd.prog 28 #[.agg #[.int .i64 4, .int .u32 src, .int .u32 dst, .int .u32 ksrc, .int .u32 kgrp, .int .i64 rank, .int .i64 cost, .bool only, .slice A n c]] w fun e w' => e = .returned (errV E (some 0)) ∧ Below w.heap.size w w' := by
  have hu := Tryd.underlying86
  have hu2 := Tryd.underlying56
  have hu3 := Tryd.underlying53
  have hlt : 0 < w.heap.size := World.block_lt_of_cell? w _ hE
  simp only [errV] at hE ⊢
  by_cases hy : rank < 0
  · have hyd : decide (0 ≤ rank) = false := decide_eq_false (by omega)
    clear hx
    go_enter Tryd.func28, Tryd.ntmps28
    go_wp2
    go_ret
    exact ⟨rfl, by repeat' (first | exact Below.refl _ _ | (refine below_alloc ?_ _))⟩
  · have hy0 : 0 ≤ rank := by omega
    have hy1 : 65535 < rank := by omega
    have hyd : decide (rank ≤ 65535) = false := decide_eq_false (by omega)
    clear hx hy
    go_enter Tryd.func28, Tryd.ntmps28
    go_wp2
    go_ret
    exact ⟨rfl, by repeat' (first | exact Below.refl _ _ | (refine below_alloc ?_ _))⟩
set_option maxHeartbeats 2000000 in
set_option maxRecDepth 100000 in
theorem valid4_cost (E : Nat → Addr) (src dst ksrc kgrp rank cost : Int) (only : Bool) (A : Option Addr) (n c : Nat) (w : World) (hn4 : n ≤ 4) (hE : w.cell? ⟨0, 0, none⟩ = some (errV E (some 0))) (hr0 : 0 ≤ rank) (hr1 : rank ≤ 65535) (hx : ¬ (0 ≤ cost ∧ cost ≤ 65535)) :
    Calls Tryd.prog 28 #[.agg #[.int .i64 4, .int .u32 src, .int .u32 dst, .int .u32 ksrc, .int .u32 kgrp, .int .i64 rank, .int .i64 cost, .bool only, .slice A n c]] w fun e w' => e = .returned (errV E (some 0)) ∧ Below w.heap.size w w' := by
  have hu := Tryd.underlying86
  have hu2 := Tryd.underlying56
  have hu3 := Tryd.underlying53
  have hlt : 0 < w.heap.size := World.block_lt_of_cell? w _ hE
  simp only [errV] at hE ⊢
  by_cases hy : cost < 0
  · have hyd : decide (0 ≤ cost) = false := decide_eq_false (by omega)
    clear hx
    go_enter Tryd.func28, Tryd.ntmps28
    go_wp2
    go_ret
    exact ⟨rfl, by repeat' (first | exact Below.refl _ _ | (refine below_alloc ?_ _))⟩
  · have hy0 : 0 ≤ cost := by omega
    have hy1 : 65535 < cost := by omega
    have hyd : decide (cost ≤ 65535) = false := decide_eq_false (by omega)
    clear hx hy
    go_enter Tryd.func28, Tryd.ntmps28
    go_wp2
    go_ret
    exact ⟨rfl, by repeat' (first | exact Below.refl _ _ | (refine below_alloc ?_ _))⟩
set_option maxHeartbeats 2000000 in
set_option maxRecDepth 100000 in
theorem valid4_grp (E : Nat → Addr) (src dst ksrc kgrp rank cost : Int) (only : Bool) (A : Option Addr) (n c : Nat) (w : World) (hn4 : n ≤ 4) (hE : w.cell? ⟨0, 0, none⟩ = some (errV E (some 0))) (hr0 : 0 ≤ rank) (hr1 : rank ≤ 65535) (hc0 : 0 ≤ cost) (hc1 : cost ≤ 65535) (hw0 : 0 ≤ kgrp) (hw1 : kgrp < 4294967296) (hgn : ¬ (3758096384 ≤ kgrp ∧ kgrp ≤ 4026531839)) :
    Calls Tryd.prog 28 #[.agg #[.int .i64 4, .int .u32 src, .int .u32 dst, .int .u32 ksrc, .int .u32 kgrp, .int .i64 rank, .int .i64 cost, .bool only, .slice A n c]] w fun e w' => e = .returned (errV E (some 0)) ∧ Below w.heap.size w w' := by
  have hu := Tryd.underlying86
  have hu2 := Tryd.underlying56
  have hu3 := Tryd.underlying53
  have hlt : 0 < w.heap.size := World.block_lt_of_cell? w _ hE
  simp only [errV] at hE ⊢
  go_enter Tryd.func28, Tryd.ntmps28
  go_wp2_with (first | (go_at_call 52; refine (grp_no kgrp _ hw0 hw1 hgn).mono ?_; rintro e w2 ⟨rfl, rfl⟩) | go_in)
  go_ret
  exact ⟨rfl, by repeat' (first | exact Below.refl _ _ | (refine below_alloc ?_ _))⟩
set_option maxHeartbeats 2000000 in
set_option maxRecDepth 100000 in
theorem valid4_dst (E : Nat → Addr) (src dst ksrc kgrp rank cost : Int) (only : Bool) (A : Option Addr) (n c : Nat) (w : World) (hn4 : n ≤ 4) (hE : w.cell? ⟨0, 0, none⟩ = some (errV E (some 0))) (hr0 : 0 ≤ rank) (hr1 : rank ≤ 65535) (hc0 : 0 ≤ cost) (hc1 : cost ≤ 65535) (hg0 : 3758096384 ≤ kgrp) (hg1 : kgrp ≤ 4026531839) (hx : ¬ dst = 0) :
    Calls Tryd.prog 28 #[.agg #[.int .i64 4, .int .u32 src, .int .u32 dst, .int .u32 ksrc, .int .u32 kgrp, .int .i64 rank, .int .i64 cost, .bool only, .slice A n c]] w fun e w' => e = .returned (errV E (some 0)) ∧ Below w.heap.size w w' := by
  have hu := Tryd.underlying86
  have hu2 := Tryd.underlying56
  have hu3 := Tryd.underlying53
  have hlt : 0 < w.heap.size := World.block_lt_of_cell? w _ hE
  simp only [errV] at hE ⊢
  have hbx : (dst != 0) = true := bne_iff_ne.2 hx
  clear hx
  go_enter Tryd.func28, Tryd.ntmps28
  go_wp2_with (first | (go_at_call 52; refine (grp_yes kgrp _ hg0 hg1).mono ?_; rintro e w2 ⟨rfl, rfl⟩) | go_in)
  go_ret
  exact ⟨rfl, by repeat' (first | exact Below.refl _ _ | (refine below_alloc ?_ _))⟩
set_option maxHeartbeats 2000000 in
set_option maxRecDepth 100000 in
theorem valid4_ksrc (E : Nat → Addr) (src dst ksrc kgrp rank cost : Int) (only : Bool) (A : Option Addr) (n c : Nat) (w : World) (hn4 : n ≤ 4) (hE : w.cell? ⟨0, 0, none⟩ = some (errV E (some 0))) (hr0 : 0 ≤ rank) (hr1 : rank ≤ 65535) (hc0 : 0 ≤ cost) (hc1 : cost ≤ 65535) (hg0 : 3758096384 ≤ kgrp) (hg1 : kgrp ≤ 4026531839) (hdst : dst = 0) (hx : ¬ ksrc = 0) :
    Calls Tryd.prog 28 #[.agg #[.int .i64 4, .int .u32 src, .int .u32 dst, .int .u32 ksrc, .int .u32 kgrp, .int .i64 rank, .int .i64 cost, .bool only, .slice A n c]] w fun e w' => e = .returned (errV E (some 0)) ∧ Below w.heap.size w w' := by
  have hu := Tryd.underlying86
  have hu2 := Tryd.underlying56
  have hu3 := Tryd.underlying53
  have hlt : 0 < w.heap.size := World.block_lt_of_cell? w _ hE
  simp only [errV] at hE ⊢
  have hbdst : (dst != 0) = false := bne_eq_false_iff_eq.2 hdst
  clear hdst
  have hbx : (ksrc != 0) = true := bne_iff_ne.2 hx
  clear hx
  go_enter Tryd.func28, Tryd.ntmps28
  go_wp2_with (first | (go_at_call 52; refine (grp_yes kgrp _ hg0 hg1).mono ?_; rintro e w2 ⟨rfl, rfl⟩) | go_in)
  go_ret
  exact ⟨rfl, by repeat' (first | exact Below.refl _ _ | (refine below_alloc ?_ _))⟩
set_option maxHeartbeats 2000000 in
set_option maxRecDepth 100000 in
theorem valid4_rank0 (E : Nat → Addr) (src dst ksrc kgrp rank cost : Int) (only : Bool) (A : Option Addr) (n c : Nat) (w : World) (hn4 : n ≤ 4) (hE : w.cell? ⟨0, 0, none⟩ = some (errV E (some 0))) (hr0 : 0 ≤ rank) (hr1 : rank ≤ 65535) (hc0 : 0 ≤ cost) (hc1 : cost ≤ 65535) (hg0 : 3758096384 ≤ kgrp) (hg1 : kgrp ≤ 4026531839) (hdst : dst = 0) (hksrc : ksrc = 0) (hx : ¬ rank = 0) :
    Calls Tryd.prog 28 #[.agg #[.int .i64 4, .int .u32 src, .int .u32 dst, .int .u32 ksrc, .int .u32 kgrp, .int .i64 rank, .int .i64 cost, .bool only, .slice A n c]] w fun e w' => e = .returned (errV E (some 0)) ∧ Below w.heap.size w w' := by
  have hu := Tryd.underlying86
  have hu2 := Tryd.underlying56
  have hu3 := Tryd.underlying53
  have hlt : 0 < w.heap.size := World.block_lt_of_cell? w _ hE
  simp only [errV] at hE ⊢
  have hbdst : (dst != 0) = false := bne_eq_false_iff_eq.2 hdst
  clear hdst
  have hbksrc : (ksrc != 0) = false := bne_eq_false_iff_eq.2 hksrc
  clear hksrc
  have hbx : (rank != 0) = true := bne_iff_ne.2 hx
  clear hx
  go_enter Tryd.func28, Tryd.ntmps28
  go_wp2_with (first | (go_at_call 52; refine (grp_yes kgrp _ hg0 hg1).mono ?_; rintro e w2 ⟨rfl, rfl⟩) | go_in)
  go_ret
  exact ⟨rfl, by repeat' (first | exact Below.refl _ _ | (refine below_alloc ?_ _))⟩
set_option maxHeartbeats 2000000 in
set_option maxRecDepth 100000 in
theorem valid4_cost0 (E : Nat → Addr) (src dst ksrc kgrp rank cost : Int) (only : Bool) (A : Option Addr) (n c : Nat) (w : World) (hn4 : n ≤ 4) (hE : w.cell? ⟨0, 0, none⟩ = some (errV E (some 0))) (hr0 : 0 ≤ rank) (hr1 : rank ≤ 65535) (hc0 : 0 ≤ cost) (hc1 : cost ≤ 65535) (hg0 : 3758096384 ≤ kgrp) (hg1 : kgrp ≤ 4026531839) (hdst : dst = 0) (hksrc : ksrc = 0) (hzrank : rank = 0) (hx : ¬ cost = 0) :
    Calls Tryd.prog 28 #[.agg #[.int .i64 4, .int .u32 src, .int .u32 dst, .int .u32 ksrc, .int .u32 kgrp, .int .i64 rank, .int .i64 cost, .bool only, .slice A n c]] w fun e w' => e = .returned (errV E (some 0)) ∧ Below w.heap.size w w' := by
  have hu := Tryd.underlying86
  have hu2 := Tryd.underlying56
  have hu3 := Tryd.underlying53
  have hlt : 0 < w.heap.size := World.block_lt_of_cell? w _ hE
  simp only [errV] at hE ⊢
  have hbdst : (dst != 0) = false := bne_eq_false_iff_eq.2 hdst
  clear hdst
  have hbksrc : (ksrc != 0) = false := bne_eq_false_iff_eq.2 hksrc
  clear hksrc
  have hbrank : (rank != 0) = false := bne_eq_false_iff_eq.2 hzrank
  clear hzrank
  have hbx : (cost != 0) = true := bne_iff_ne.2 hx
  clear hx
  go_enter Tryd.func28, Tryd.ntmps28
  go_wp2_with (first | (go_at_call 52; refine (grp_yes kgrp _ hg0 hg1).mono ?_; rintro e w2 ⟨rfl, rfl⟩) | go_in)
  go_ret
  exact ⟨rfl, by repeat' (first | exact Below.refl _ _ | (refine below_alloc ?_ _))⟩
set_option maxHeartbeats 2000000 in
set_option maxRecDepth 100000 in
theorem valid4_ok (E : Nat → Addr) (src dst ksrc kgrp rank cost : Int) (only : Bool) (A : Option Addr) (n c : Nat) (w : World) (hn4 : n ≤ 4) (hr0 : 0 ≤ rank) (hr1 : rank ≤ 65535) (hc0 : 0 ≤ cost) (hc1 : cost ≤ 65535) (hg0 : 3758096384 ≤ kgrp) (hg1 : kgrp ≤ 4026531839) (hdst : dst = 0) (hksrc : ksrc = 0) (hzrank : rank = 0) (hzcost : cost = 0) :
    Calls Tryd.prog 28 #[.agg #[.int .i64 4, .int .u32 src, .int .u32 dst, .int .u32 ksrc, .int .u32 kgrp, .int .i64 rank, .int .i64 cost, .bool only, .slice A n c]] w fun e w' => e = .returned (.nilIface) ∧ Below w.heap.size w w' := by
  have hu := Tryd.underlying86
  have hu2 := Tryd.underlying56
  have hu3 := Tryd.underlying53
  have hbdst : (dst != 0) = false := bne_eq_false_iff_eq.2 hdst
  clear hdst
  have hbksrc : (ksrc != 0) = false := bne_eq_false_iff_eq.2 hksrc
  clear hksrc
  have hbrank : (rank != 0) = false := bne_eq_false_iff_eq.2 hzrank
  clear hzrank
  have hbcost : (cost != 0) = false := bne_eq_false_iff_eq.2 hzcost
  clear hzcost
  go_enter Tryd.func28, Tryd.ntmps28
  go_wp2_with (first | (go_at_call 52; refine (grp_yes kgrp _ hg0 hg1).mono ?_; rintro e w2 ⟨rfl, rfl⟩) | go_in)
  go_ret
  exact ⟨rfl, by repeat' (first | exact Below.refl _ _ | (refine below_alloc ?_ _))⟩
end Go.Proofs.YtbgbplbkombfjaaDoor
namespace Go.Proofs.YtbgbplbkombfjaaDoor
open Go.RowKit Go.Proofs.YtbgbplbkombfjaaDoorW.PrintWords SumPlain
set_option linter.unusedVariables false
set_option linter.unusedSimpArgs false
attribute [local go_sem] setCell_drewN alloc_drewN
set_option maxHeartbeats 2000000 in
set_option maxRecDepth 100000 in
theorem valid5_rank (E : Nat → Addr) (src dst ksrc kgrp rank cost : Int) (only : Bool) (A : Option Addr) (n c : Nat) (w : World) (hn4 : n ≤ 4) (hE : w.cell? ⟨0, 0, none⟩ = some (errV E (some 0))) (hx : ¬ (0 ≤ rank ∧ rank ≤ 65535)) :
    Calls Tryd.prog 28 #[.agg #[.int .i64 5, .int .u32 src, .int .u32 dst, .int .u32 ksrc, .int .u32 kgrp, .int .i64 rank, .int .i64 cost, .bool only, .slice A n c]] w fun e w' => e = .returned (errV E (some 0)) ∧ Below w.heap.size w w' := by
  have hu := Tryd.underlying86
  have hu2 := Tryd.underlying56
  have hu3 := Tryd.underlying53
  have hlt : 0 < w.heap.size := World.block_lt_of_cell? w _ hE
  simp only [errV] at hE ⊢
  by_cases hy : rank < 0
  · have hyd : decide (0 ≤ rank) = false := decide_eq_false (by omega)
    clear hx
    go_enter Tryd.func28, Tryd.ntmps28
    go_wp2
    go_ret
    exact ⟨rfl, by repeat' (first | exact Below.refl _ _ | (refine below_alloc ?_ _))⟩
  · have hy0 : 0 ≤ rank := by omega
    have hy1 : 65535 < rank := by omega
    have hyd : decide (rank ≤ 65535) = false := decide_eq_false (by omega)
    clear hx hy
    go_enter Tryd.func28, Tryd.ntmps28
    go_wp2
    go_ret
    exact ⟨rfl, by repeat' (first | exact Below.refl _ _ | (refine below_alloc ?_ _))⟩
set_option maxHeartbeats 2000000 in
set_option maxRecDepth 100000 in
theorem valid5_cost (E : Nat → Addr) (src dst ksrc kgrp rank cost : Int) (only : Bool) (A : Option Addr) (n c : Nat) (w : World) (hn4 : n ≤ 4) (hE : w.cell? ⟨0, 0, none⟩ = some (errV E (some 0))) (hr0 : 0 ≤ rank) (hr1 : rank ≤ 65535) (hx : ¬ (0 ≤ cost ∧ cost ≤ 65535)) :
    Calls Tryd.prog 28 #[.agg #[.int .i64 5, .int .u32 src, .int .u32 dst, .int .u32 ksrc, .int .u32 kgrp, .int .i64 rank, .int .i64 cost, .bool only, .slice A n c]] w fun e w' => e = .returned (errV E (some 0)) ∧ Below w.heap.size w w' := by
  have hu := Tryd.underlying86
  have hu2 := Tryd.underlying56
  have hu3 := Tryd.underlying53
  have hlt : 0 < w.heap.size := World.block_lt_of_cell? w _ hE
  simp only [errV] at hE ⊢
  by_cases hy : cost < 0
  · have hyd : decide (0 ≤ cost) = false := decide_eq_false (by omega)
    clear hx
    go_enter Tryd.func28, Tryd.ntmps28
    go_wp2
    go_ret
    exact ⟨rfl, by repeat' (first | exact Below.refl _ _ | (refine below_alloc ?_ _))⟩
  · have hy0 : 0 ≤ cost := by omega
    have hy1 : 65535 < cost := by omega
    have hyd : decide (cost ≤ 65535) = false := decide_eq_false (by omega)
    clear hx hy
    go_enter Tryd.func28, Tryd.ntmps28
    go_wp2
    go_ret
    exact ⟨rfl, by repeat' (first | exact Below.refl _ _ | (refine below_alloc ?_ _))⟩
set_option maxHeartbeats 2000000 in
set_option maxRecDepth 100000 in
theorem valid5_grp (E : Nat → Addr) (src dst ksrc kgrp rank cost : Int) (only : Bool) (A : Option Addr) (n c : Nat) (w : World) (hn4 : n ≤ 4) (hE : w.cell? ⟨0, 0, none⟩ = some (errV E (some 0))) (hr0 : 0 ≤ rank) (hr1 : rank ≤ 65535) (hc0 : 0 ≤ cost) (hc1 : cost ≤ 65535) (hw0 : 0 ≤ kgrp) (hw1 : kgrp < 4294967296) (hgn : ¬ (3758096384 ≤ kgrp ∧ kgrp ≤ 4026531839)) :
    Calls Tryd.prog 28 #[.agg #[.int .i64 5, .int .u32 src, .int .u32 dst, .int .u32 ksrc, .int .u32 kgrp, .int .i64 rank, .int .i64 cost, .bool only, .slice A n c]] w fun e w' => e = .returned (errV E (some 0)) ∧ Below w.heap.size w w' := by
  have hu := Tryd.underlying86
  have hu2 := Tryd.underlying56
  have hu3 := Tryd.underlying53
  have hlt : 0 < w.heap.size := World.block_lt_of_cell? w _ hE
  simp only [errV] at hE ⊢
  go_enter Tryd.func28, Tryd.ntmps28
  go_wp2_with (first | (go_at_call 52; refine (grp_no kgrp _ hw0 hw1 hgn).mono ?_; rintro e w2 ⟨rfl, rfl⟩) | go_in)
  go_ret
  exact ⟨rfl, by repeat' (first | exact Below.refl _ _ | (refine below_alloc ?_ _))⟩
set_option maxHeartbeats 2000000 in
set_option maxRecDepth 100000 in
theorem valid5_dst (E : Nat → Addr) (src dst ksrc kgrp rank cost : Int) (only : Bool) (A : Option Addr) (n c : Nat) (w : World) (hn4 : n ≤ 4) (hE : w.cell? ⟨0, 0, none⟩ = some (errV E (some 0))) (hr0 : 0 ≤ rank) (hr1 : rank ≤ 65535) (hc0 : 0 ≤ cost) (hc1 : cost ≤ 65535) (hg0 : 3758096384 ≤ kgrp) (hg1 : kgrp ≤ 4026531839) (hx : ¬ dst = 0) :
    Calls Tryd.prog 28 #[.agg #[.int .i64 5, .int .u32 src, .int .u32 dst, .int .u32 ksrc, .int .u32 kgrp, .int .i64 rank, .int .i64 cost, .bool only, .slice A n c]] w fun e w' => e = .returned (errV E (some 0)) ∧ Below w.heap.size w w' := by
  have hu := Tryd.underlying86
  have hu2 := Tryd.underlying56
  have hu3 := Tryd.underlying53
  have hlt : 0 < w.heap.size := World.block_lt_of_cell? w _ hE
  simp only [errV] at hE ⊢
  have hbx : (dst != 0) = true := bne_iff_ne.2 hx
  clear hx
  go_enter Tryd.func28, Tryd.ntmps28
  go_wp2_with (first | (go_at_call 52; refine (grp_yes kgrp _ hg0 hg1).mono ?_; rintro e w2 ⟨rfl, rfl⟩) | go_in)
  go_ret
  exact ⟨rfl, by repeat' (first | exact Below.refl _ _ | (refine below_alloc ?_ _))⟩
set_option maxHeartbeats 2000000 in
set_option maxRecDepth 100000 in
theorem valid5_ksrc (E : Nat → Addr) (src dst ksrc kgrp rank cost : Int) (only : Bool) (A : Option Addr) (n c : Nat) (w : World) (hn4 : n ≤ 4) (hE : w.cell? ⟨0, 0, none⟩ = some (errV E (some 0))) (hr0 : 0 ≤ rank) (hr1 : rank ≤ 65535) (hc0 : 0 ≤ cost) (hc1 : cost ≤ 65535) (hg0 : 3758096384 ≤ kgrp) (hg1 : kgrp ≤ 4026531839) (hdst : dst = 0) (hx : ¬ ksrc = 0) :
    Calls Tryd.prog 28 #[.agg #[.int .i64 5, .int .u32 src, .int .u32 dst, .int .u32 ksrc, .int .u32 kgrp, .int .i64 rank, .int .i64 cost, .bool only, .slice A n c]] w fun e w' => e = .returned (errV E (some 0)) ∧ Below w.heap.size w w' := by
  have hu := Tryd.underlying86
  have hu2 := Tryd.underlying56
  have hu3 := Tryd.underlying53
  have hlt : 0 < w.heap.size := World.block_lt_of_cell? w _ hE
  simp only [errV] at hE ⊢
  have hbdst : (dst != 0) = false := bne_eq_false_iff_eq.2 hdst
  clear hdst
  have hbx : (ksrc != 0) = true := bne_iff_ne.2 hx
  clear hx
  go_enter Tryd.func28, Tryd.ntmps28
  go_wp2_with (first | (go_at_call 52; refine (grp_yes kgrp _ hg0 hg1).mono ?_; rintro e w2 ⟨rfl, rfl⟩) | go_in)
  go_ret
  exact ⟨rfl, by repeat' (first | exact Below.refl _ _ | (refine below_alloc ?_ _))⟩
set_option maxHeartbeats 2000000 in
set_option maxRecDepth 100000 in
theorem valid5_rank0 (E : Nat → Addr) (src dst ksrc kgrp rank cost : Int) (only : Bool) (A : Option Addr) (n c : Nat) (w : World) (hn4 : n ≤ 4) (hE : w.cell? ⟨0, 0, none⟩ = some (errV E (some 0))) (hr0 : 0 ≤ rank) (hr1 : rank ≤ 65535) (hc0 : 0 ≤ cost) (hc1 : cost ≤ 65535) (hg0 : 3758096384 ≤ kgrp) (hg1 : kgrp ≤ 4026531839) (hdst : dst = 0) (hksrc : ksrc = 0) (hx : ¬ rank = 0) :
    Calls Tryd.prog 28 #[.agg #[.int .i64 5, .int .u32 src, .int .u32 dst, .int .u32 ksrc, .int .u32 kgrp, .int .i64 rank, .int .i64 cost, .bool only, .slice A n c]] w fun e w' => e = .returned (errV E (some 0)) ∧ Below w.heap.size w w' := by
  have hu := Tryd.underlying86
  have hu2 := Tryd.underlying56
  have hu3 := Tryd.underlying53
  have hlt : 0 < w.heap.size := World.block_lt_of_cell? w _ hE
  simp only [errV] at hE ⊢
  have hbdst : (dst != 0) = false := bne_eq_false_iff_eq.2 hdst
  clear hdst
  have hbksrc : (ksrc != 0) = false := bne_eq_false_iff_eq.2 hksrc
  clear hksrc
  have hbx : (rank != 0) = true := bne_iff_ne.2 hx
  clear hx
  go_enter Tryd.func28, Tryd.ntmps28
  go_wp2_with (first | (go_at_call 52; refine (grp_yes kgrp _ hg0 hg1).mono ?_; rintro e w2 ⟨rfl, rfl⟩) | go_in)
  go_ret
  exact ⟨rfl, by repeat' (first | exact Below.refl _ _ | (refine below_alloc ?_ _))⟩
set_option maxHeartbeats 2000000 in
set_option maxRecDepth 100000 in
theorem valid5_cost0 (E : Nat → Addr) (src dst ksrc kgrp rank cost : Int) (only : Bool) (A : Option Addr) (n c : Nat) (w : World) (hn4 : n ≤ 4) (hE : w.cell? ⟨0, 0, none⟩ = some (errV E (some 0))) (hr0 : 0 ≤ rank) (hr1 : rank ≤ 65535) (hc0 : 0 ≤ cost) (hc1 : cost ≤ 65535) (hg0 : 3758096384 ≤ kgrp) (hg1 : kgrp ≤ 4026531839) (hdst : dst = 0) (hksrc : ksrc = 0) (hzrank : rank = 0) (hx : ¬ cost = 0) :
    Calls Tryd.prog 28 #[.agg #[.int .i64 5, .int .u32 src, .int .u32 dst, .int .u32 ksrc, .int .u32 kgrp, .int .i64 rank, .int .i64 cost, .bool only, .slice A n c]] w fun e w' => e = .returned (errV E (some 0)) ∧ Below w.heap.size w w' := by
  have hu := Tryd.underlying86
  have hu2 := Tryd.underlying56
  have hu3 := Tryd.underlying53
  have hlt : 0 < w.heap.size := World.block_lt_of_cell? w _ hE
  simp only [errV] at hE ⊢
  have hbdst : (dst != 0) = false := bne_eq_false_iff_eq.2 hdst
  clear hdst
  have hbksrc : (ksrc != 0) = false := bne_eq_false_iff_eq.2 hksrc
  clear hksrc
  have hbrank : (rank != 0) = false := bne_eq_false_iff_eq.2 hzrank
  clear hzrank
  have hbx : (cost != 0) = true := bne_iff_ne.2 hx
  clear hx
  go_enter Tryd.func28, Tryd.ntmps28
  go_wp2_with (first | (go_at_call 52; refine (grp_yes kgrp _ hg0 hg1).mono ?_; rintro e w2 ⟨rfl, rfl⟩) | go_in)
  go_ret
  exact ⟨rfl, by repeat' (first | exact Below.refl _ _ | (refine below_alloc ?_ _))⟩
set_option maxHeartbeats 2000000 in
set_option maxRecDepth 100000 in
theorem valid5_only (E : Nat → Addr) (src dst ksrc kgrp rank cost : Int) (only : Bool) (A : Option Addr) (n c : Nat) (w : World) (hn4 : n ≤ 4) (hE : w.cell? ⟨0, 0, none⟩ = some (errV E (some 0))) (hr0 : 0 ≤ rank) (hr1 : rank ≤ 65535) (hc0 : 0 ≤ cost) (hc1 : cost ≤ 65535) (hg0 : 3758096384 ≤ kgrp) (hg1 : kgrp ≤ 4026531839) (hdst : dst = 0) (hksrc : ksrc = 0) (hzrank : rank = 0) (hzcost : cost = 0) (hx : only = true) :
    Calls Tryd.prog 28 #[.agg #[.int .i64 5, .int .u32 src, .int .u32 dst, .int .u32 ksrc, .int .u32 kgrp, .int .i64 rank, .int .i64 cost, .bool only, .slice A n c]] w fun e w' => e = .returned (errV E (some 0)) ∧ Below w.heap.size w w' := by
  have hu := Tryd.underlying86
  have hu2 := Tryd.underlying56
  have hu3 := Tryd.underlying53
  have hlt : 0 < w.heap.size := World.block_lt_of_cell? w _ hE
  simp only [errV] at hE ⊢
  have hbdst : (dst != 0) = false := bne_eq_false_iff_eq.2 hdst
  clear hdst
  have hbksrc : (ksrc != 0) = false := bne_eq_false_iff_eq.2 hksrc
  clear hksrc
  have hbrank : (rank != 0) = false := bne_eq_false_iff_eq.2 hzrank
  clear hzrank
  have hbcost : (cost != 0) = false := bne_eq_false_iff_eq.2 hzcost
  clear hzcost
  subst hx
  go_enter Tryd.func28, Tryd.ntmps28
  go_wp2_with (first | (go_at_call 52; refine (grp_yes kgrp _ hg0 hg1).mono ?_; rintro e w2 ⟨rfl, rfl⟩) | go_in)
  go_ret
  exact ⟨rfl, by repeat' (first | exact Below.refl _ _ | (refine below_alloc ?_ _))⟩
set_option maxHeartbeats 2000000 in
set_option maxRecDepth 100000 in
theorem valid5_none (E : Nat → Addr) (src dst ksrc kgrp rank cost : Int) (only : Bool) (A : Option Addr) (n c : Nat) (w : World) (hn4 : n ≤ 4) (hE : w.cell? ⟨0, 0, none⟩ = some (errV E (some 0))) (hr0 : 0 ≤ rank) (hr1 : rank ≤ 65535) (hc0 : 0 ≤ cost) (hc1 : cost ≤ 65535) (hg0 : 3758096384 ≤ kgrp) (hg1 : kgrp ≤ 4026531839) (hdst : dst = 0) (hksrc : ksrc = 0) (hzrank : rank = 0) (hzcost : cost = 0) (ho : only = false) (hx : 0 < n) :
    Calls Tryd.prog 28 #[.agg #[.int .i64 5, .int .u32 src, .int .u32 dst, .int .u32 ksrc, .int .u32 kgrp, .int .i64 rank, .int .i64 cost, .bool only, .slice A n c]] w fun e w' => e = .returned (errV E (some 0)) ∧ Below w.heap.size w w' := by
  have hu := Tryd.underlying86
  have hu2 := Tryd.underlying56
  have hu3 := Tryd.underlying53
  have hlt : 0 < w.heap.size := World.block_lt_of_cell? w _ hE
  simp only [errV] at hE ⊢
  have hbdst : (dst != 0) = false := bne_eq_false_iff_eq.2 hdst
  clear hdst
  have hbksrc : (ksrc != 0) = false := bne_eq_false_iff_eq.2 hksrc
  clear hksrc
  have hbrank : (rank != 0) = false := bne_eq_false_iff_eq.2 hzrank
  clear hzrank
  have hbcost : (cost != 0) = false := bne_eq_false_iff_eq.2 hzcost
  clear hzcost
  subst ho
  go_enter Tryd.func28, Tryd.ntmps28
  go_wp2_with (first | (go_at_call 52; refine (grp_yes kgrp _ hg0 hg1).mono ?_; rintro e w2 ⟨rfl, rfl⟩) | go_in)
  go_ret
  exact ⟨rfl, by repeat' (first | exact Below.refl _ _ | (refine below_alloc ?_ _))⟩
set_option maxHeartbeats 2000000 in
set_option maxRecDepth 100000 in
theorem valid5_ok (E : Nat → Addr) (src dst ksrc kgrp rank cost : Int) (only : Bool) (A : Option Addr) (n c : Nat) (w : World) (hn4 : n ≤ 4) (hr0 : 0 ≤ rank) (hr1 : rank ≤ 65535) (hc0 : 0 ≤ cost) (hc1 : cost ≤ 65535) (hg0 : 3758096384 ≤ kgrp) (hg1 : kgrp ≤ 4026531839) (hdst : dst = 0) (hksrc : ksrc = 0) (hzrank : rank = 0) (hzcost : cost = 0) (ho : only = false) (hn0 : n = 0) :
    Calls Tryd.prog 28 #[.agg #[.int .i64 5, .int .u32 src, .int .u32 dst, .int .u32 ksrc, .int .u32 kgrp, .int .i64 rank, .int .i64 cost, .bool only, .slice A n c]] w fun e w' => e = .returned (.nilIface) ∧ Below w.heap.size w w' := by
  have hu := Tryd.underlying86
  have hu2 := Tryd.underlying56
  have hu3 := Tryd.underlying53
  have hbdst : (dst != 0) = false := bne_eq_false_iff_eq.2 hdst
  clear hdst
  have hbksrc : (ksrc != 0) = false := bne_eq_false_iff_eq.2 hksrc
  clear hksrc
  have hbrank : (rank != 0) = false := bne_eq_false_iff_eq.2 hzrank
  clear hzrank
  have hbcost : (cost != 0) = false := bne_eq_false_iff_eq.2 hzcost
  clear hzcost
  subst ho
  subst hn0
  go_enter Tryd.func28, Tryd.ntmps28
  go_wp2_with (first | (go_at_call 52; refine (grp_yes kgrp _ hg0 hg1).mono ?_; rintro e w2 ⟨rfl, rfl⟩) | go_in)
  go_ret
  exact ⟨rfl, by repeat' (first | exact Below.refl _ _ | (refine below_alloc ?_ _))⟩
end Go.Proofs.YtbgbplbkombfjaaDoor
namespace Go.Proofs.YtbgbplbkombfjaaDoor
open Go.RowKit Go.Proofs.YtbgbplbkombfjaaDoorW.PrintWords SumPlain
set_option linter.unusedVariables false
set_option linter.unusedSimpArgs false
attribute [local go_sem] setCell_drewN alloc_drewN
set_option maxHeartbeats 1000000 in
set_option maxRecDepth 100000 in
theorem valid_kind (E : Nat → Addr) (K src dst ksrc kgrp rank cost : Int) (only : Bool) (A : Option Addr) (n c : Nat) (w : World) (hE : w.cell? ⟨4, 0, none⟩ = some (errV E (some 4))) (hx : ¬ (1 ≤ K ∧ K ≤ 5)) :
    Calls Tryd.prog 28 #[.agg #[.int .i64 K, .int .u32 src, .int .u32 dst, .int .u32 ksrc, .int .u32 kgrp, .int .i64 rank, .int .i64 cost, .bool only, .slice A n c]] w fun e w' => e = .returned (errV E (some 4)) ∧ Below w.heap.size w w' := by
  have hu := Tryd.underlying86
  have hu2 := Tryd.underlying56
  have hlt : 4 < w.heap.size := World.block_lt_of_cell? w _ hE
  simp only [errV] at hE ⊢
  by_cases hy : K < 1
  · have hyd : decide (1 ≤ K) = false := decide_eq_false (by omega)
    clear hx
    go_enter Tryd.func28, Tryd.ntmps28
    go_wp2
    go_ret
    exact ⟨rfl, by repeat' (first | exact Below.refl _ _ | (refine below_alloc ?_ _))⟩
  · have hy0 : 1 ≤ K := by omega
    have hy1 : 5 < K := by omega
    have hyd : decide (K ≤ 5) = false := decide_eq_false (by omega)
    clear hx hy
    go_enter Tryd.func28, Tryd.ntmps28
    go_wp2
    go_ret
    exact ⟨rfl, by repeat' (first | exact Below.refl _ _ | (refine below_alloc ?_ _))⟩
set_option maxHeartbeats 1000000 in
set_option maxRecDepth 100000 in
theorem valid_many (E : Nat → Addr) (K src dst ksrc kgrp rank cost : Int) (only : Bool) (A : Option Addr) (n c : Nat) (w : World) (hE : w.cell? ⟨5, 0, none⟩ = some (errV E (some 5))) (h1 : 1 ≤ K) (h5 : K ≤ 5) (hn : 4 < n) (hm : n ≤ 9223372036854775807) :
    Calls Tryd.prog 28 #[.agg #[.int .i64 K, .int .u32 src, .int .u32 dst, .int .u32 ksrc, .int .u32 kgrp, .int .i64 rank, .int .i64 cost, .bool only, .slice A n c]] w fun e w' => e = .returned (errV E (some 5)) ∧ Below w.heap.size w w' := by
  have hu := Tryd.underlying86
  have hu2 := Tryd.underlying56
  have hlt : 5 < w.heap.size := World.block_lt_of_cell? w _ hE
  simp only [errV] at hE ⊢
  have hd : decide (4 < (n : Int)) = true := decide_eq_true (by omega)
  go_enter Tryd.func28, Tryd.ntmps28
  go_wp2
  go_ret
  exact ⟨rfl, by repeat' (first | exact Below.refl _ _ | (refine below_alloc ?_ _))⟩
theorem valid_at1 (E : Nat → Addr) (src dst ksrc kgrp rank cost : Int) (only : Bool) (l : List Int) (A : Option Addr) (n c : Nat) (w : World) (hE : w.cell? ⟨0, 0, none⟩ = some (errV E (some 0))) (hn4 : n ≤ 4) (hl : l.length = n) (hg : isAd kgrp) :
    Calls Tryd.prog 28 #[.agg #[.int .i64 1, .int .u32 src, .int .u32 dst, .int .u32 ksrc, .int .u32 kgrp, .int .i64 rank, .int .i64 cost, .bool only, .slice A n c]] w fun e w' => e = .returned (errV E (if ¬ (⟨1, src, dst, ksrc, kgrp, rank, cost, only, l⟩ : Msg).ok then some 0 else none)) ∧ Below w.heap.size w w' := by
  by_cases h_rank : 0 ≤ rank ∧ rank ≤ 65535
  · skip
    by_cases h_cost : 0 ≤ cost ∧ cost ≤ 65535
    · skip
      by_cases h_grp0 : kgrp = 0
      · skip
        by_cases h_dst : dst = 0
        · skip
          by_cases h_ksrc : ksrc = 0
          · skip
            by_cases h_cost0 : cost = 0
            · skip
              by_cases h_only : only = false
              · skip
                by_cases h_none : n = 0
                · skip
                  have ho : (⟨1, src, dst, ksrc, kgrp, rank, cost, only, l⟩ : Msg).ok := ⟨h_rank, h_cost, fun _ => h_grp0, fun e => absurd rfl e, fun _ => h_dst, fun _ => h_ksrc, fun e => absurd rfl e, fun _ => h_cost0, fun _ => ⟨h_only, List.eq_nil_of_length_eq_zero (show l.length = 0 by omega)⟩⟩
                  rw [if_neg (fun hno => hno ho)]
                  exact valid1_ok E src dst ksrc kgrp rank cost only A n c w hn4 h_rank.1 h_rank.2 h_cost.1 h_cost.2 h_grp0 h_dst h_ksrc h_cost0 h_only h_none
                · rw [if_pos (fun ho => h_none (by have e : l = [] := (ho.2.2.2.2.2.2.2.2 (by simp)).2; rw [← hl, e]; rfl))]
                  exact valid1_none E src dst ksrc kgrp rank cost only A n c w hn4 hE h_rank.1 h_rank.2 h_cost.1 h_cost.2 h_grp0 h_dst h_ksrc h_cost0 h_only (by omega)
              · rw [if_pos (fun ho => h_only (ho.2.2.2.2.2.2.2.2 (by simp)).1)]
                exact valid1_only E src dst ksrc kgrp rank cost only A n c w hn4 hE h_rank.1 h_rank.2 h_cost.1 h_cost.2 h_grp0 h_dst h_ksrc h_cost0 (by simpa using h_only)
            · rw [if_pos (fun ho => h_cost0 (ho.2.2.2.2.2.2.2.1 (by simp)))]
              exact valid1_cost0 E src dst ksrc kgrp rank cost only A n c w hn4 hE h_rank.1 h_rank.2 h_cost.1 h_cost.2 h_grp0 h_dst h_ksrc h_cost0
          · rw [if_pos (fun ho => h_ksrc (ho.2.2.2.2.2.1 ⟨by simp, by simp⟩))]
            exact valid1_ksrc E src dst ksrc kgrp rank cost only A n c w hn4 hE h_rank.1 h_rank.2 h_cost.1 h_cost.2 h_grp0 h_dst h_ksrc
        · rw [if_pos (fun ho => h_dst (ho.2.2.2.2.1 (by simp)))]
          exact valid1_dst E src dst ksrc kgrp rank cost only A n c w hn4 hE h_rank.1 h_rank.2 h_cost.1 h_cost.2 h_grp0 h_dst
      · rw [if_pos (fun ho => h_grp0 (ho.2.2.1 rfl))]
        exact valid1_grp0 E src dst ksrc kgrp rank cost only A n c w hn4 hE h_rank.1 h_rank.2 h_cost.1 h_cost.2 h_grp0
    · rw [if_pos (fun ho => h_cost ho.2.1)]
      exact valid1_cost E src dst ksrc kgrp rank cost only A n c w hn4 hE h_rank.1 h_rank.2 h_cost
  · rw [if_pos (fun ho => h_rank ho.1)]
    exact valid1_rank E src dst ksrc kgrp rank cost only A n c w hn4 hE h_rank
theorem valid_at2 (E : Nat → Addr) (src dst ksrc kgrp rank cost : Int) (only : Bool) (l : List Int) (A : Option Addr) (n c : Nat) (w : World) (hE : w.cell? ⟨0, 0, none⟩ = some (errV E (some 0))) (hn4 : n ≤ 4) (hl : l.length = n) (hg : isAd kgrp) :
    Calls Tryd.prog 28 #[.agg #[.int .i64 2, .int .u32 src, .int .u32 dst, .int .u32 ksrc, .int .u32 kgrp, .int .i64 rank, .int .i64 cost, .bool only, .slice A n c]] w fun e w' => e = .returned (errV E (if ¬ (⟨2, src, dst, ksrc, kgrp, rank, cost, only, l⟩ : Msg).ok then some 0 else none)) ∧ Below w.heap.size w w' := by
  by_cases h_rank : 0 ≤ rank ∧ rank ≤ 65535
  · skip
    by_cases h_cost : 0 ≤ cost ∧ cost ≤ 65535
    · skip
      by_cases h_grp : 3758096384 ≤ kgrp ∧ kgrp ≤ 4026531839
      · skip
        by_cases h_rank0 : rank = 0
        · skip
          by_cases h_cost0 : cost = 0
          · skip
            by_cases h_only : only = false
            · skip
              by_cases h_none : n = 0
              · skip
                have ho : (⟨2, src, dst, ksrc, kgrp, rank, cost, only, l⟩ : Msg).ok := ⟨h_rank, h_cost, fun e => absurd e (by simp), fun _ => h_grp, fun e => absurd rfl e, fun e => absurd rfl (e.1), fun _ => h_rank0, fun _ => h_cost0, fun _ => ⟨h_only, List.eq_nil_of_length_eq_zero (show l.length = 0 by omega)⟩⟩
                rw [if_neg (fun hno => hno ho)]
                exact valid2_ok E src dst ksrc kgrp rank cost only A n c w hn4 h_rank.1 h_rank.2 h_cost.1 h_cost.2 h_grp.1 h_grp.2 h_rank0 h_cost0 h_only h_none
              · rw [if_pos (fun ho => h_none (by have e : l = [] := (ho.2.2.2.2.2.2.2.2 (by simp)).2; rw [← hl, e]; rfl))]
                exact valid2_none E src dst ksrc kgrp rank cost only A n c w hn4 hE h_rank.1 h_rank.2 h_cost.1 h_cost.2 h_grp.1 h_grp.2 h_rank0 h_cost0 h_only (by omega)
            · rw [if_pos (fun ho => h_only (ho.2.2.2.2.2.2.2.2 (by simp)).1)]
              exact valid2_only E src dst ksrc kgrp rank cost only A n c w hn4 hE h_rank.1 h_rank.2 h_cost.1 h_cost.2 h_grp.1 h_grp.2 h_rank0 h_cost0 (by simpa using h_only)
          · rw [if_pos (fun ho => h_cost0 (ho.2.2.2.2.2.2.2.1 (by simp)))]
            exact valid2_cost0 E src dst ksrc kgrp rank cost only A n c w hn4 hE h_rank.1 h_rank.2 h_cost.1 h_cost.2 h_grp.1 h_grp.2 h_rank0 h_cost0
        · rw [if_pos (fun ho => h_rank0 (ho.2.2.2.2.2.2.1 (by simp)))]
          exact valid2_rank0 E src dst ksrc kgrp rank cost only A n c w hn4 hE h_rank.1 h_rank.2 h_cost.1 h_cost.2 h_grp.1 h_grp.2 h_rank0
      · rw [if_pos (fun ho => h_grp (ho.2.2.2.1 (by simp)))]
        exact valid2_grp E src dst ksrc kgrp rank cost only A n c w hn4 hE h_rank.1 h_rank.2 h_cost.1 h_cost.2 hg.1 hg.2 h_grp
    · rw [if_pos (fun ho => h_cost ho.2.1)]
      exact valid2_cost E src dst ksrc kgrp rank cost only A n c w hn4 hE h_rank.1 h_rank.2 h_cost
  · rw [if_pos (fun ho => h_rank ho.1)]
    exact valid2_rank E src dst ksrc kgrp rank cost only A n c w hn4 hE h_rank
theorem valid_at3 (E : Nat → Addr) (src dst ksrc kgrp rank cost : Int) (only : Bool) (l : List Int) (A : Option Addr) (n c : Nat) (w : World) (hE : w.cell? ⟨0, 0, none⟩ = some (errV E (some 0))) (hn4 : n ≤ 4) (hl : l.length = n) (hg : isAd kgrp) :
    Calls Tryd.prog 28 #[.agg #[.int .i64 3, .int .u32 src, .int .u32 dst, .int .u32 ksrc, .int .u32 kgrp, .int .i64 rank, .int .i64 cost, .bool only, .slice A n c]] w fun e w' => e = .returned (errV E (if ¬ (⟨3, src, dst, ksrc, kgrp, rank, cost, only, l⟩ : Msg).ok then some 0 else none)) ∧ Below w.heap.size w w' := by
  by_cases h_rank : 0 ≤ rank ∧ rank ≤ 65535
  · skip
    by_cases h_cost : 0 ≤ cost ∧ cost ≤ 65535
    · skip
      by_cases h_grp : 3758096384 ≤ kgrp ∧ kgrp ≤ 4026531839
      · skip
        by_cases h_dst : dst = 0
        · skip
          by_cases h_rank0 : rank = 0
          · skip
            by_cases h_only : only = false
            · skip
              by_cases h_none : n = 0
              · skip
                have ho : (⟨3, src, dst, ksrc, kgrp, rank, cost, only, l⟩ : Msg).ok := ⟨h_rank, h_cost, fun e => absurd e (by simp), fun _ => h_grp, fun _ => h_dst, fun e => absurd rfl (e.2), fun _ => h_rank0, fun e => absurd rfl e, fun _ => ⟨h_only, List.eq_nil_of_length_eq_zero (show l.length = 0 by omega)⟩⟩
                rw [if_neg (fun hno => hno ho)]
                exact valid3_ok E src dst ksrc kgrp rank cost only A n c w hn4 h_rank.1 h_rank.2 h_cost.1 h_cost.2 h_grp.1 h_grp.2 h_dst h_rank0 h_only h_none
              · rw [if_pos (fun ho => h_none (by have e : l = [] := (ho.2.2.2.2.2.2.2.2 (by simp)).2; rw [← hl, e]; rfl))]
                exact valid3_none E src dst ksrc kgrp rank cost only A n c w hn4 hE h_rank.1 h_rank.2 h_cost.1 h_cost.2 h_grp.1 h_grp.2 h_dst h_rank0 h_only (by omega)
            · rw [if_pos (fun ho => h_only (ho.2.2.2.2.2.2.2.2 (by simp)).1)]
              exact valid3_only E src dst ksrc kgrp rank cost only A n c w hn4 hE h_rank.1 h_rank.2 h_cost.1 h_cost.2 h_grp.1 h_grp.2 h_dst h_rank0 (by simpa using h_only)
          · rw [if_pos (fun ho => h_rank0 (ho.2.2.2.2.2.2.1 (by simp)))]
            exact valid3_rank0 E src dst ksrc kgrp rank cost only A n c w hn4 hE h_rank.1 h_rank.2 h_cost.1 h_cost.2 h_grp.1 h_grp.2 h_dst h_rank0
        · rw [if_pos (fun ho => h_dst (ho.2.2.2.2.1 (by simp)))]
          exact valid3_dst E src dst ksrc kgrp rank cost only A n c w hn4 hE h_rank.1 h_rank.2 h_cost.1 h_cost.2 h_grp.1 h_grp.2 h_dst
      · rw [if_pos (fun ho => h_grp (ho.2.2.2.1 (by simp)))]
        exact valid3_grp E src dst ksrc kgrp rank cost only A n c w hn4 hE h_rank.1 h_rank.2 h_cost.1 h_cost.2 hg.1 hg.2 h_grp
    · rw [if_pos (fun ho => h_cost ho.2.1)]
      exact valid3_cost E src dst ksrc kgrp rank cost only A n c w hn4 hE h_rank.1 h_rank.2 h_cost
  · rw [if_pos (fun ho => h_rank ho.1)]
    exact valid3_rank E src dst ksrc kgrp rank cost only A n c w hn4 hE h_rank
theorem valid_at4 (E : Nat → Addr) (src dst ksrc kgrp rank cost : Int) (only : Bool) (l : List Int) (A : Option Addr) (n c : Nat) (w : World) (hE : w.cell? ⟨0, 0, none⟩ = some (errV E (some 0))) (hn4 : n ≤ 4) (hl : l.length = n) (hg : isAd kgrp) :
    Calls Tryd.prog 28 #[.agg #[.int .i64 4, .int .u32 src, .int .u32 dst, .int .u32 ksrc, .int .u32 kgrp, .int .i64 rank, .int .i64 cost, .bool only, .slice A n c]] w fun e w' => e = .returned (errV E (if ¬ (⟨4, src, dst, ksrc, kgrp, rank, cost, only, l⟩ : Msg).ok then some 0 else none)) ∧ Below w.heap.size w w' := by
  by_cases h_rank : 0 ≤ rank ∧ rank ≤ 65535
  · skip
    by_cases h_cost : 0 ≤ cost ∧ cost ≤ 65535
    · skip
      by_cases h_grp : 3758096384 ≤ kgrp ∧ kgrp ≤ 4026531839
      · skip
        by_cases h_dst : dst = 0
        · skip
          by_cases h_ksrc : ksrc = 0
          · skip
            by_cases h_rank0 : rank = 0
            · skip
              by_cases h_cost0 : cost = 0
              · skip
                have ho : (⟨4, src, dst, ksrc, kgrp, rank, cost, only, l⟩ : Msg).ok := ⟨h_rank, h_cost, fun e => absurd e (by simp), fun _ => h_grp, fun _ => h_dst, fun _ => h_ksrc, fun _ => h_rank0, fun _ => h_cost0, fun e => absurd rfl e⟩
                rw [if_neg (fun hno => hno ho)]
                exact valid4_ok E src dst ksrc kgrp rank cost only A n c w hn4 h_rank.1 h_rank.2 h_cost.1 h_cost.2 h_grp.1 h_grp.2 h_dst h_ksrc h_rank0 h_cost0
              · rw [if_pos (fun ho => h_cost0 (ho.2.2.2.2.2.2.2.1 (by simp)))]
                exact valid4_cost0 E src dst ksrc kgrp rank cost only A n c w hn4 hE h_rank.1 h_rank.2 h_cost.1 h_cost.2 h_grp.1 h_grp.2 h_dst h_ksrc h_rank0 h_cost0
            · rw [if_pos (fun ho => h_rank0 (ho.2.2.2.2.2.2.1 (by simp)))]
              exact valid4_rank0 E src dst ksrc kgrp rank cost only A n c w hn4 hE h_rank.1 h_rank.2 h_cost.1 h_cost.2 h_grp.1 h_grp.2 h_dst h_ksrc h_rank0
          · rw [if_pos (fun ho => h_ksrc (ho.2.2.2.2.2.1 ⟨by simp, by simp⟩))]
            exact valid4_ksrc E src dst ksrc kgrp rank cost only A n c w hn4 hE h_rank.1 h_rank.2 h_cost.1 h_cost.2 h_grp.1 h_grp.2 h_dst h_ksrc
        · rw [if_pos (fun ho => h_dst (ho.2.2.2.2.1 (by simp)))]
          exact valid4_dst E src dst ksrc kgrp rank cost only A n c w hn4 hE h_rank.1 h_rank.2 h_cost.1 h_cost.2 h_grp.1 h_grp.2 h_dst
      · rw [if_pos (fun ho => h_grp (ho.2.2.2.1 (by simp)))]
        exact valid4_grp E src dst ksrc kgrp rank cost only A n c w hn4 hE h_rank.1 h_rank.2 h_cost.1 h_cost.2 hg.1 hg.2 h_grp
    · rw [if_pos (fun ho => h_cost ho.2.1)]
      exact valid4_cost E src dst ksrc kgrp rank cost only A n c w hn4 hE h_rank.1 h_rank.2 h_cost
  · rw [if_pos (fun ho => h_rank ho.1)]
    exact valid4_rank E src dst ksrc kgrp rank cost only A n c w hn4 hE h_rank
theorem valid_at5 (E : Nat → Addr) (src dst ksrc kgrp rank cost : Int) (only : Bool) (l : List Int) (A : Option Addr) (n c : Nat) (w : World) (hE : w.cell? ⟨0, 0, none⟩ = some (errV E (some 0))) (hn4 : n ≤ 4) (hl : l.length = n) (hg : isAd kgrp) :
    Calls Tryd.prog 28 #[.agg #[.int .i64 5, .int .u32 src, .int .u32 dst, .int .u32 ksrc, .int .u32 kgrp, .int .i64 rank, .int .i64 cost, .bool only, .slice A n c]] w fun e w' => e = .returned (errV E (if ¬ (⟨5, src, dst, ksrc, kgrp, rank, cost, only, l⟩ : Msg).ok then some 0 else none)) ∧ Below w.heap.size w w' := by
  by_cases h_rank : 0 ≤ rank ∧ rank ≤ 65535
  · skip
    by_cases h_cost : 0 ≤ cost ∧ cost ≤ 65535
    · skip
      by_cases h_grp : 3758096384 ≤ kgrp ∧ kgrp ≤ 4026531839
      · skip
        by_cases h_dst : dst = 0
        · skip
          by_cases h_ksrc : ksrc = 0
          · skip
            by_cases h_rank0 : rank = 0
            · skip
              by_cases h_cost0 : cost = 0
              · skip
                by_cases h_only : only = false
                · skip
                  by_cases h_none : n = 0
                  · skip
                    have ho : (⟨5, src, dst, ksrc, kgrp, rank, cost, only, l⟩ : Msg).ok := ⟨h_rank, h_cost, fun e => absurd e (by simp), fun _ => h_grp, fun _ => h_dst, fun _ => h_ksrc, fun _ => h_rank0, fun _ => h_cost0, fun _ => ⟨h_only, List.eq_nil_of_length_eq_zero (show l.length = 0 by omega)⟩⟩
                    rw [if_neg (fun hno => hno ho)]
                    exact valid5_ok E src dst ksrc kgrp rank cost only A n c w hn4 h_rank.1 h_rank.2 h_cost.1 h_cost.2 h_grp.1 h_grp.2 h_dst h_ksrc h_rank0 h_cost0 h_only h_none
                  · rw [if_pos (fun ho => h_none (by have e : l = [] := (ho.2.2.2.2.2.2.2.2 (by simp)).2; rw [← hl, e]; rfl))]
                    exact valid5_none E src dst ksrc kgrp rank cost only A n c w hn4 hE h_rank.1 h_rank.2 h_cost.1 h_cost.2 h_grp.1 h_grp.2 h_dst h_ksrc h_rank0 h_cost0 h_only (by omega)
                · rw [if_pos (fun ho => h_only (ho.2.2.2.2.2.2.2.2 (by simp)).1)]
                  exact valid5_only E src dst ksrc kgrp rank cost only A n c w hn4 hE h_rank.1 h_rank.2 h_cost.1 h_cost.2 h_grp.1 h_grp.2 h_dst h_ksrc h_rank0 h_cost0 (by simpa using h_only)
              · rw [if_pos (fun ho => h_cost0 (ho.2.2.2.2.2.2.2.1 (by simp)))]
                exact valid5_cost0 E src dst ksrc kgrp rank cost only A n c w hn4 hE h_rank.1 h_rank.2 h_cost.1 h_cost.2 h_grp.1 h_grp.2 h_dst h_ksrc h_rank0 h_cost0
            · rw [if_pos (fun ho => h_rank0 (ho.2.2.2.2.2.2.1 (by simp)))]
              exact valid5_rank0 E src dst ksrc kgrp rank cost only A n c w hn4 hE h_rank.1 h_rank.2 h_cost.1 h_cost.2 h_grp.1 h_grp.2 h_dst h_ksrc h_rank0
          · rw [if_pos (fun ho => h_ksrc (ho.2.2.2.2.2.1 ⟨by simp, by simp⟩))]
            exact valid5_ksrc E src dst ksrc kgrp rank cost only A n c w hn4 hE h_rank.1 h_rank.2 h_cost.1 h_cost.2 h_grp.1 h_grp.2 h_dst h_ksrc
        · rw [if_pos (fun ho => h_dst (ho.2.2.2.2.1 (by simp)))]
          exact valid5_dst E src dst ksrc kgrp rank cost only A n c w hn4 hE h_rank.1 h_rank.2 h_cost.1 h_cost.2 h_grp.1 h_grp.2 h_dst
      · rw [if_pos (fun ho => h_grp (ho.2.2.2.1 (by simp)))]
        exact valid5_grp E src dst ksrc kgrp rank cost only A n c w hn4 hE h_rank.1 h_rank.2 h_cost.1 h_cost.2 hg.1 hg.2 h_grp
    · rw [if_pos (fun ho => h_cost ho.2.1)]
      exact valid5_cost E src dst ksrc kgrp rank cost only A n c w hn4 hE h_rank.1 h_rank.2 h_cost
  · rw [if_pos (fun ho => h_rank ho.1)]
    exact valid5_rank E src dst ksrc kgrp rank cost only A n c w hn4 hE h_rank
theorem valid_any (E : Nat → Addr) (m : Msg) (A : Option Addr) (n c : Nat) (w : World) (hE : Errs wireErrs E w) (hw : m.wf) (hC : Kd.C (Kd.int .u32) w A n m.l) :
    Calls Tryd.prog 28 #[.agg (m.cells (.slice A n c))] w fun e w' => e = .returned (errV E (validL m)) ∧ Below w.heap.size w w' := by
  obtain ⟨K, src, dst, ksrc, kgrp, rank, cost, only, l⟩ := m
  have hl := hC.1
  have hm := Kd.C_max hC
  have hg := hw.2.2.2.1
  simp only at hl hg
  simp only [Msg.cells, validL]
  by_cases h1 : 1 ≤ K ∧ K ≤ 5
  · rw [if_neg (fun h => h h1)]
    by_cases h2 : 4 < l.length
    · rw [if_pos h2]
      exact valid_many E K src dst ksrc kgrp rank cost only A n c w (hE.cell _ (by simp [wireErrs])) h1.1 h1.2 (by omega) hm
    · rw [if_neg h2]
      have hcell := hE.cell 0 (by simp [wireErrs])
      obtain rfl | rfl | rfl | rfl | rfl : K = 1 ∨ K = 2 ∨ K = 3 ∨ K = 4 ∨ K = 5 := by omega
      · exact valid_at1 E src dst ksrc kgrp rank cost only l A n c w hcell (by omega) hl hg
      · exact valid_at2 E src dst ksrc kgrp rank cost only l A n c w hcell (by omega) hl hg
      · exact valid_at3 E src dst ksrc kgrp rank cost only l A n c w hcell (by omega) hl hg
      · exact valid_at4 E src dst ksrc kgrp rank cost only l A n c w hcell (by omega) hl hg
      · exact valid_at5 E src dst ksrc kgrp rank cost only l A n c w hcell (by omega) hl hg
  · rw [if_pos h1]
    exact valid_kind E K src dst ksrc kgrp rank cost only A n c w (hE.cell _ (by simp [wireErrs])) h1
end Go.Proofs.YtbgbplbkombfjaaDoor
