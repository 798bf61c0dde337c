/- The document's ValidMsg: any message. -/
import Derived.Test.YtbgbplbkombfjaaDoorWMsg
import Derived.Test.YtbgbplbkombfjaaDoorIpRefH
namespace Go.Proofs.YtbgbplbkombfjaaDoor
open Go.RowKit Go.Proofs.YtbgbplbkombfjaaDoorW.PrintWords SumPlain
set_option linter.unusedVariables false
set_option linter.unusedSimpArgs false
attribute [local go_sem] setCell_drewN alloc_drewN
theorem cost_val (x : Int) (b : Bool) (w : World) (h : decide (isNum x) = b) : Calls Tryd.prog 54 #[.int .i64 x] w fun e w' => e = .returned (.bool b) ∧ w = w' := by
  subst h
  by_cases h0 : 0 ≤ x
  · by_cases h1 : x ≤ 65535
    · rw [decide_eq_true (show isNum x from ⟨h0, h1⟩)]
      have d0 : decide (0 ≤ x) = true := decide_eq_true h0
      have d1 : decide (x ≤ 65535) = true := decide_eq_true h1
      go_enter Tryd.func54, Tryd.ntmps54
      go_wp2
      go_ret
      exact ⟨rfl, rfl⟩
    · rw [decide_eq_false (show ¬ isNum x from fun h => h1 h.2)]
      have d0 : decide (0 ≤ x) = true := decide_eq_true h0
      have d1 : decide (x ≤ 65535) = false := decide_eq_false h1
      go_enter Tryd.func54, Tryd.ntmps54
      go_wp2
      go_ret
      exact ⟨rfl, rfl⟩
  · rw [decide_eq_false (show ¬ isNum x from fun h => h0 h.1)]
    have d0 : decide (0 ≤ x) = false := decide_eq_false h0
    go_enter Tryd.func54, Tryd.ntmps54
    go_wp2
    go_ret
    exact ⟨rfl, rfl⟩
theorem rgrp_val (a : Int) (b : Bool) (w : World) (h : decide (isGrp a) = b) (ha : isAd a) : Calls Tryd.prog 55 #[.int .u32 a] w fun e w' => e = .returned (.bool b) ∧ w = w' := by
  subst h
  obtain ⟨h0, h1⟩ := ha
  have hE : (a / 268435456 == 14) = decide (isGrp a) := by
    by_cases g : isGrp a
    · rw [decide_eq_true g]
      have g' : 3758096384 ≤ a ∧ a ≤ 4026531839 := g
      exact beq_iff_eq.2 (by omega)
    · rw [decide_eq_false g]
      have g' : ¬ (3758096384 ≤ a ∧ a ≤ 4026531839) := g
      exact beq_eq_false_iff_ne.2 (by omega)
  rw [← hE]
  clear hE
  go_enter Tryd.func55, Tryd.ntmps55
  go_wp2
  go_ret
  exact ⟨rfl, rfl⟩
end Go.Proofs.YtbgbplbkombfjaaDoor
namespace Go.Proofs.YtbgbplbkombfjaaDoor
open Go.RowKit Go.Proofs.YtbgbplbkombfjaaDoorW.PrintWords SumPlain
set_option linter.unusedVariables false
set_option linter.unusedSimpArgs false
attribute [local go_sem] setCell_drewN alloc_drewN
set_option maxHeartbeats 2000000 in
set_option maxRecDepth 100000 in
theorem rvalid1_rank (src dst ksrc kgrp rank cost : Int) (only : Bool) (A : Option Addr) (n c : Nat) (w : World) (hn4 : n ≤ 4) (hkg : isAd kgrp)  (h_rank : ¬ isNum rank) :
    Calls Tryd.prog 31 #[.agg #[.int .i64 1, .int .u32 src, .int .u32 dst, .int .u32 ksrc, .int .u32 kgrp, .int .i64 rank, .int .i64 cost, .bool only, .slice A n c]] w fun e w' => e = .returned (.int .i64 103) ∧ Below w.heap.size w w' := by
  have hu2 := Tryd.underlying56
  have hu3 := Tryd.underlying53
  have hDrank : decide (isNum rank) = false := decide_eq_false h_rank
  clear h_rank
  go_enter Tryd.func31, Tryd.ntmps31
  go_wp2_with (first | (go_at_call 54; refine (cost_val _ _ _ (by assumption)).mono ?_; rintro e w2 ⟨rfl, rfl⟩) | (go_at_call 55; refine (rgrp_val _ _ _ (by assumption) hkg).mono ?_; rintro e w2 ⟨rfl, rfl⟩) | go_in)
  go_ret
  exact ⟨rfl, by repeat' (first | exact Below.refl _ _ | (refine below_alloc ?_ _))⟩
set_option maxHeartbeats 2000000 in
set_option maxRecDepth 100000 in
theorem rvalid1_cost (src dst ksrc kgrp rank cost : Int) (only : Bool) (A : Option Addr) (n c : Nat) (w : World) (hn4 : n ≤ 4) (hkg : isAd kgrp) (h_rank : isNum rank) (h_cost : ¬ isNum cost) :
    Calls Tryd.prog 31 #[.agg #[.int .i64 1, .int .u32 src, .int .u32 dst, .int .u32 ksrc, .int .u32 kgrp, .int .i64 rank, .int .i64 cost, .bool only, .slice A n c]] w fun e w' => e = .returned (.int .i64 103) ∧ Below w.heap.size w w' := by
  have hu2 := Tryd.underlying56
  have hu3 := Tryd.underlying53
  have hDrank : decide (isNum rank) = true := decide_eq_true h_rank
  clear h_rank
  have hDcost : decide (isNum cost) = false := decide_eq_false h_cost
  clear h_cost
  go_enter Tryd.func31, Tryd.ntmps31
  go_wp2_with (first | (go_at_call 54; refine (cost_val _ _ _ (by assumption)).mono ?_; rintro e w2 ⟨rfl, rfl⟩) | (go_at_call 55; refine (rgrp_val _ _ _ (by assumption) hkg).mono ?_; rintro e w2 ⟨rfl, rfl⟩) | go_in)
  go_ret
  exact ⟨rfl, by repeat' (first | exact Below.refl _ _ | (refine below_alloc ?_ _))⟩
set_option maxHeartbeats 2000000 in
set_option maxRecDepth 100000 in
theorem rvalid1_cost0 (src dst ksrc kgrp rank cost : Int) (only : Bool) (A : Option Addr) (n c : Nat) (w : World) (hn4 : n ≤ 4) (hkg : isAd kgrp) (h_rank : isNum rank) (h_cost : isNum cost) (h_cost0 : ¬ cost = 0) :
    Calls Tryd.prog 31 #[.agg #[.int .i64 1, .int .u32 src, .int .u32 dst, .int .u32 ksrc, .int .u32 kgrp, .int .i64 rank, .int .i64 cost, .bool only, .slice A n c]] w fun e w' => e = .returned (.int .i64 103) ∧ Below w.heap.size w w' := by
  have hu2 := Tryd.underlying56
  have hu3 := Tryd.underlying53
  have hDrank : decide (isNum rank) = true := decide_eq_true h_rank
  clear h_rank
  have hDcost : decide (isNum cost) = true := decide_eq_true h_cost
  clear h_cost
  have hBcost0 : (cost == 0) = false := beq_eq_false_iff_ne.2 h_cost0
  clear h_cost0
  go_enter Tryd.func31, Tryd.ntmps31
  go_wp2_with (first | (go_at_call 54; refine (cost_val _ _ _ (by assumption)).mono ?_; rintro e w2 ⟨rfl, rfl⟩) | (go_at_call 55; refine (rgrp_val _ _ _ (by assumption) hkg).mono ?_; rintro e w2 ⟨rfl, rfl⟩) | go_in)
  go_ret
  exact ⟨rfl, by repeat' (first | exact Below.refl _ _ | (refine below_alloc ?_ _))⟩
set_option maxHeartbeats 2000000 in
set_option maxRecDepth 100000 in
theorem rvalid1_dst (src dst ksrc kgrp rank cost : Int) (only : Bool) (A : Option Addr) (n c : Nat) (w : World) (hn4 : n ≤ 4) (hkg : isAd kgrp) (h_rank : isNum rank) (h_cost : isNum cost) (h_cost0 : cost = 0) (h_dst : ¬ dst = 0) :
    Calls Tryd.prog 31 #[.agg #[.int .i64 1, .int .u32 src, .int .u32 dst, .int .u32 ksrc, .int .u32 kgrp, .int .i64 rank, .int .i64 cost, .bool only, .slice A n c]] w fun e w' => e = .returned (.int .i64 103) ∧ Below w.heap.size w w' := by
  have hu2 := Tryd.underlying56
  have hu3 := Tryd.underlying53
  have hDrank : decide (isNum rank) = true := decide_eq_true h_rank
  clear h_rank
  have hDcost : decide (isNum cost) = true := decide_eq_true h_cost
  clear h_cost
  have hBcost0 : (cost == 0) = true := beq_iff_eq.2 h_cost0
  clear h_cost0
  have hBdst : (dst == 0) = false := beq_eq_false_iff_ne.2 h_dst
  clear h_dst
  go_enter Tryd.func31, Tryd.ntmps31
  go_wp2_with (first | (go_at_call 54; refine (cost_val _ _ _ (by assumption)).mono ?_; rintro e w2 ⟨rfl, rfl⟩) | (go_at_call 55; refine (rgrp_val _ _ _ (by assumption) hkg).mono ?_; rintro e w2 ⟨rfl, rfl⟩) | go_in)
  go_ret
  exact ⟨rfl, by repeat' (first | exact Below.refl _ _ | (refine below_alloc ?_ _))⟩
set_option maxHeartbeats 2000000 in
set_option maxRecDepth 100000 in
theorem rvalid1_only (src dst ksrc kgrp rank cost : Int) (only : Bool) (A : Option Addr) (n c : Nat) (w : World) (hn4 : n ≤ 4) (hkg : isAd kgrp) (h_rank : isNum rank) (h_cost : isNum cost) (h_cost0 : cost = 0) (h_dst : dst = 0) (h_only : ¬ only = false) :
    Calls Tryd.prog 31 #[.agg #[.int .i64 1, .int .u32 src, .int .u32 dst, .int .u32 ksrc, .int .u32 kgrp, .int .i64 rank, .int .i64 cost, .bool only, .slice A n c]] w fun e w' => e = .returned (.int .i64 103) ∧ Below w.heap.size w w' := by
  have hu2 := Tryd.underlying56
  have hu3 := Tryd.underlying53
  have hDrank : decide (isNum rank) = true := decide_eq_true h_rank
  clear h_rank
  have hDcost : decide (isNum cost) = true := decide_eq_true h_cost
  clear h_cost
  have hBcost0 : (cost == 0) = true := beq_iff_eq.2 h_cost0
  clear h_cost0
  have hBdst : (dst == 0) = true := beq_iff_eq.2 h_dst
  clear h_dst
  obtain rfl : only = true := by simpa using h_only
  clear h_only
  go_enter Tryd.func31, Tryd.ntmps31
  go_wp2_with (first | (go_at_call 54; refine (cost_val _ _ _ (by assumption)).mono ?_; rintro e w2 ⟨rfl, rfl⟩) | (go_at_call 55; refine (rgrp_val _ _ _ (by assumption) hkg).mono ?_; rintro e w2 ⟨rfl, rfl⟩) | go_in)
  go_ret
  exact ⟨rfl, by repeat' (first | exact Below.refl _ _ | (refine below_alloc ?_ _))⟩
set_option maxHeartbeats 2000000 in
set_option maxRecDepth 100000 in
theorem rvalid1_none (src dst ksrc kgrp rank cost : Int) (only : Bool) (A : Option Addr) (n c : Nat) (w : World) (hn4 : n ≤ 4) (hkg : isAd kgrp) (h_rank : isNum rank) (h_cost : isNum cost) (h_cost0 : cost = 0) (h_dst : dst = 0) (h_only : only = false) (h_none : ¬ n = 0) :
    Calls Tryd.prog 31 #[.agg #[.int .i64 1, .int .u32 src, .int .u32 dst, .int .u32 ksrc, .int .u32 kgrp, .int .i64 rank, .int .i64 cost, .bool only, .slice A n c]] w fun e w' => e = .returned (.int .i64 103) ∧ Below w.heap.size w w' := by
  have hu2 := Tryd.underlying56
  have hu3 := Tryd.underlying53
  have hDrank : decide (isNum rank) = true := decide_eq_true h_rank
  clear h_rank
  have hDcost : decide (isNum cost) = true := decide_eq_true h_cost
  clear h_cost
  have hBcost0 : (cost == 0) = true := beq_iff_eq.2 h_cost0
  clear h_cost0
  have hBdst : (dst == 0) = true := beq_iff_eq.2 h_dst
  clear h_dst
  obtain rfl : only = false := by simpa using h_only
  clear h_only
  have hBn : ((n : Int) == 0) = false := beq_eq_false_iff_ne.2 (by omega)
  clear h_none
  go_enter Tryd.func31, Tryd.ntmps31
  go_wp2_with (first | (go_at_call 54; refine (cost_val _ _ _ (by assumption)).mono ?_; rintro e w2 ⟨rfl, rfl⟩) | (go_at_call 55; refine (rgrp_val _ _ _ (by assumption) hkg).mono ?_; rintro e w2 ⟨rfl, rfl⟩) | go_in)
  go_ret
  exact ⟨rfl, by repeat' (first | exact Below.refl _ _ | (refine below_alloc ?_ _))⟩
set_option maxHeartbeats 2000000 in
set_option maxRecDepth 100000 in
theorem rvalid1_grp0 (src dst ksrc kgrp rank cost : Int) (only : Bool) (A : Option Addr) (n c : Nat) (w : World) (hn4 : n ≤ 4) (hkg : isAd kgrp) (h_rank : isNum rank) (h_cost : isNum cost) (h_cost0 : cost = 0) (h_dst : dst = 0) (h_only : only = false) (h_none : n = 0) (h_grp0 : ¬ kgrp = 0) :
    Calls Tryd.prog 31 #[.agg #[.int .i64 1, .int .u32 src, .int .u32 dst, .int .u32 ksrc, .int .u32 kgrp, .int .i64 rank, .int .i64 cost, .bool only, .slice A n c]] w fun e w' => e = .returned (.int .i64 103) ∧ Below w.heap.size w w' := by
  have hu2 := Tryd.underlying56
  have hu3 := Tryd.underlying53
  have hDrank : decide (isNum rank) = true := decide_eq_true h_rank
  clear h_rank
  have hDcost : decide (isNum cost) = true := decide_eq_true h_cost
  clear h_cost
  have hBcost0 : (cost == 0) = true := beq_iff_eq.2 h_cost0
  clear h_cost0
  have hBdst : (dst == 0) = true := beq_iff_eq.2 h_dst
  clear h_dst
  obtain rfl : only = false := by simpa using h_only
  clear h_only
  subst h_none
  have hBgrp0 : (kgrp == 0) = false := beq_eq_false_iff_ne.2 h_grp0
  clear h_grp0
  go_enter Tryd.func31, Tryd.ntmps31
  go_wp2_with (first | (go_at_call 54; refine (cost_val _ _ _ (by assumption)).mono ?_; rintro e w2 ⟨rfl, rfl⟩) | (go_at_call 55; refine (rgrp_val _ _ _ (by assumption) hkg).mono ?_; rintro e w2 ⟨rfl, rfl⟩) | go_in)
  go_ret
  exact ⟨rfl, by repeat' (first | exact Below.refl _ _ | (refine below_alloc ?_ _))⟩
set_option maxHeartbeats 2000000 in
set_option maxRecDepth 100000 in
theorem rvalid1_ksrc (src dst ksrc kgrp rank cost : Int) (only : Bool) (A : Option Addr) (n c : Nat) (w : World) (hn4 : n ≤ 4) (hkg : isAd kgrp) (h_rank : isNum rank) (h_cost : isNum cost) (h_cost0 : cost = 0) (h_dst : dst = 0) (h_only : only = false) (h_none : n = 0) (h_grp0 : kgrp = 0) (h_ksrc : ¬ ksrc = 0) :
    Calls Tryd.prog 31 #[.agg #[.int .i64 1, .int .u32 src, .int .u32 dst, .int .u32 ksrc, .int .u32 kgrp, .int .i64 rank, .int .i64 cost, .bool only, .slice A n c]] w fun e w' => e = .returned (.int .i64 103) ∧ Below w.heap.size w w' := by
  have hu2 := Tryd.underlying56
  have hu3 := Tryd.underlying53
  have hDrank : decide (isNum rank) = true := decide_eq_true h_rank
  clear h_rank
  have hDcost : decide (isNum cost) = true := decide_eq_true h_cost
  clear h_cost
  have hBcost0 : (cost == 0) = true := beq_iff_eq.2 h_cost0
  clear h_cost0
  have hBdst : (dst == 0) = true := beq_iff_eq.2 h_dst
  clear h_dst
  obtain rfl : only = false := by simpa using h_only
  clear h_only
  subst h_none
  have hBgrp0 : (kgrp == 0) = true := beq_iff_eq.2 h_grp0
  clear h_grp0
  have hBksrc : (ksrc == 0) = false := beq_eq_false_iff_ne.2 h_ksrc
  clear h_ksrc
  go_enter Tryd.func31, Tryd.ntmps31
  go_wp2_with (first | (go_at_call 54; refine (cost_val _ _ _ (by assumption)).mono ?_; rintro e w2 ⟨rfl, rfl⟩) | (go_at_call 55; refine (rgrp_val _ _ _ (by assumption) hkg).mono ?_; rintro e w2 ⟨rfl, rfl⟩) | go_in)
  go_ret
  exact ⟨rfl, by repeat' (first | exact Below.refl _ _ | (refine below_alloc ?_ _))⟩
set_option maxHeartbeats 2000000 in
set_option maxRecDepth 100000 in
theorem rvalid1_ok (src dst ksrc kgrp rank cost : Int) (only : Bool) (A : Option Addr) (n c : Nat) (w : World) (hn4 : n ≤ 4) (hkg : isAd kgrp) (h_rank : isNum rank) (h_cost : isNum cost) (h_cost0 : cost = 0) (h_dst : dst = 0) (h_only : only = false) (h_none : n = 0) (h_grp0 : kgrp = 0) (h_ksrc : ksrc = 0) :
    Calls Tryd.prog 31 #[.agg #[.int .i64 1, .int .u32 src, .int .u32 dst, .int .u32 ksrc, .int .u32 kgrp, .int .i64 rank, .int .i64 cost, .bool only, .slice A n c]] w fun e w' => e = .returned (.int .i64 0) ∧ Below w.heap.size w w' := by
  have hu2 := Tryd.underlying56
  have hu3 := Tryd.underlying53
  have hDrank : decide (isNum rank) = true := decide_eq_true h_rank
  clear h_rank
  have hDcost : decide (isNum cost) = true := decide_eq_true h_cost
  clear h_cost
  have hBcost0 : (cost == 0) = true := beq_iff_eq.2 h_cost0
  clear h_cost0
  have hBdst : (dst == 0) = true := beq_iff_eq.2 h_dst
  clear h_dst
  obtain rfl : only = false := by simpa using h_only
  clear h_only
  subst h_none
  have hBgrp0 : (kgrp == 0) = true := beq_iff_eq.2 h_grp0
  clear h_grp0
  have hBksrc : (ksrc == 0) = true := beq_iff_eq.2 h_ksrc
  clear h_ksrc
  go_enter Tryd.func31, Tryd.ntmps31
  go_wp2_with (first | (go_at_call 54; refine (cost_val _ _ _ (by assumption)).mono ?_; rintro e w2 ⟨rfl, rfl⟩) | (go_at_call 55; refine (rgrp_val _ _ _ (by assumption) hkg).mono ?_; rintro e w2 ⟨rfl, rfl⟩) | go_in)
  go_ret
  exact ⟨rfl, by repeat' (first | exact Below.refl _ _ | (refine below_alloc ?_ _))⟩
end Go.Proofs.YtbgbplbkombfjaaDoor
namespace Go.Proofs.YtbgbplbkombfjaaDoor
open Go.RowKit Go.Proofs.YtbgbplbkombfjaaDoorW.PrintWords SumPlain
set_option linter.unusedVariables false
set_option linter.unusedSimpArgs false
attribute [local go_sem] setCell_drewN alloc_drewN
set_option maxHeartbeats 2000000 in
set_option maxRecDepth 100000 in
theorem rvalid2_rank (src dst ksrc kgrp rank cost : Int) (only : Bool) (A : Option Addr) (n c : Nat) (w : World) (hn4 : n ≤ 4) (hkg : isAd kgrp)  (h_rank : ¬ isNum rank) :
    Calls Tryd.prog 31 #[.agg #[.int .i64 2, .int .u32 src, .int .u32 dst, .int .u32 ksrc, .int .u32 kgrp, .int .i64 rank, .int .i64 cost, .bool only, .slice A n c]] w fun e w' => e = .returned (.int .i64 103) ∧ Below w.heap.size w w' := by
  have hu2 := Tryd.underlying56
  have hu3 := Tryd.underlying53
  have hDrank : decide (isNum rank) = false := decide_eq_false h_rank
  clear h_rank
  go_enter Tryd.func31, Tryd.ntmps31
  go_wp2_with (first | (go_at_call 54; refine (cost_val _ _ _ (by assumption)).mono ?_; rintro e w2 ⟨rfl, rfl⟩) | (go_at_call 55; refine (rgrp_val _ _ _ (by assumption) hkg).mono ?_; rintro e w2 ⟨rfl, rfl⟩) | go_in)
  go_ret
  exact ⟨rfl, by repeat' (first | exact Below.refl _ _ | (refine below_alloc ?_ _))⟩
set_option maxHeartbeats 2000000 in
set_option maxRecDepth 100000 in
theorem rvalid2_cost (src dst ksrc kgrp rank cost : Int) (only : Bool) (A : Option Addr) (n c : Nat) (w : World) (hn4 : n ≤ 4) (hkg : isAd kgrp) (h_rank : isNum rank) (h_cost : ¬ isNum cost) :
    Calls Tryd.prog 31 #[.agg #[.int .i64 2, .int .u32 src, .int .u32 dst, .int .u32 ksrc, .int .u32 kgrp, .int .i64 rank, .int .i64 cost, .bool only, .slice A n c]] w fun e w' => e = .returned (.int .i64 103) ∧ Below w.heap.size w w' := by
  have hu2 := Tryd.underlying56
  have hu3 := Tryd.underlying53
  have hDrank : decide (isNum rank) = true := decide_eq_true h_rank
  clear h_rank
  have hDcost : decide (isNum cost) = false := decide_eq_false h_cost
  clear h_cost
  go_enter Tryd.func31, Tryd.ntmps31
  go_wp2_with (first | (go_at_call 54; refine (cost_val _ _ _ (by assumption)).mono ?_; rintro e w2 ⟨rfl, rfl⟩) | (go_at_call 55; refine (rgrp_val _ _ _ (by assumption) hkg).mono ?_; rintro e w2 ⟨rfl, rfl⟩) | go_in)
  go_ret
  exact ⟨rfl, by repeat' (first | exact Below.refl _ _ | (refine below_alloc ?_ _))⟩
set_option maxHeartbeats 2000000 in
set_option maxRecDepth 100000 in
theorem rvalid2_grp (src dst ksrc kgrp rank cost : Int) (only : Bool) (A : Option Addr) (n c : Nat) (w : World) (hn4 : n ≤ 4) (hkg : isAd kgrp) (h_rank : isNum rank) (h_cost : isNum cost) (h_grp : ¬ isGrp kgrp) :
    Calls Tryd.prog 31 #[.agg #[.int .i64 2, .int .u32 src, .int .u32 dst, .int .u32 ksrc, .int .u32 kgrp, .int .i64 rank, .int .i64 cost, .bool only, .slice A n c]] w fun e w' => e = .returned (.int .i64 103) ∧ Below w.heap.size w w' := by
  have hu2 := Tryd.underlying56
  have hu3 := Tryd.underlying53
  have hDrank : decide (isNum rank) = true := decide_eq_true h_rank
  clear h_rank
  have hDcost : decide (isNum cost) = true := decide_eq_true h_cost
  clear h_cost
  have hDgrp : decide (isGrp kgrp) = false := decide_eq_false h_grp
  clear h_grp
  go_enter Tryd.func31, Tryd.ntmps31
  go_wp2_with (first | (go_at_call 54; refine (cost_val _ _ _ (by assumption)).mono ?_; rintro e w2 ⟨rfl, rfl⟩) | (go_at_call 55; refine (rgrp_val _ _ _ (by assumption) hkg).mono ?_; rintro e w2 ⟨rfl, rfl⟩) | go_in)
  go_ret
  exact ⟨rfl, by repeat' (first | exact Below.refl _ _ | (refine below_alloc ?_ _))⟩
set_option maxHeartbeats 2000000 in
set_option maxRecDepth 100000 in
theorem rvalid2_rank0 (src dst ksrc kgrp rank cost : Int) (only : Bool) (A : Option Addr) (n c : Nat) (w : World) (hn4 : n ≤ 4) (hkg : isAd kgrp) (h_rank : isNum rank) (h_cost : isNum cost) (h_grp : isGrp kgrp) (h_rank0 : ¬ rank = 0) :
    Calls Tryd.prog 31 #[.agg #[.int .i64 2, .int .u32 src, .int .u32 dst, .int .u32 ksrc, .int .u32 kgrp, .int .i64 rank, .int .i64 cost, .bool only, .slice A n c]] w fun e w' => e = .returned (.int .i64 103) ∧ Below w.heap.size w w' := by
  have hu2 := Tryd.underlying56
  have hu3 := Tryd.underlying53
  have hDrank : decide (isNum rank) = true := decide_eq_true h_rank
  clear h_rank
  have hDcost : decide (isNum cost) = true := decide_eq_true h_cost
  clear h_cost
  have hDgrp : decide (isGrp kgrp) = true := decide_eq_true h_grp
  clear h_grp
  have hBrank0 : (rank == 0) = false := beq_eq_false_iff_ne.2 h_rank0
  clear h_rank0
  go_enter Tryd.func31, Tryd.ntmps31
  go_wp2_with (first | (go_at_call 54; refine (cost_val _ _ _ (by assumption)).mono ?_; rintro e w2 ⟨rfl, rfl⟩) | (go_at_call 55; refine (rgrp_val _ _ _ (by assumption) hkg).mono ?_; rintro e w2 ⟨rfl, rfl⟩) | go_in)
  go_ret
  exact ⟨rfl, by repeat' (first | exact Below.refl _ _ | (refine below_alloc ?_ _))⟩
set_option maxHeartbeats 2000000 in
set_option maxRecDepth 100000 in
theorem rvalid2_cost0 (src dst ksrc kgrp rank cost : Int) (only : Bool) (A : Option Addr) (n c : Nat) (w : World) (hn4 : n ≤ 4) (hkg : isAd kgrp) (h_rank : isNum rank) (h_cost : isNum cost) (h_grp : isGrp kgrp) (h_rank0 : rank = 0) (h_cost0 : ¬ cost = 0) :
    Calls Tryd.prog 31 #[.agg #[.int .i64 2, .int .u32 src, .int .u32 dst, .int .u32 ksrc, .int .u32 kgrp, .int .i64 rank, .int .i64 cost, .bool only, .slice A n c]] w fun e w' => e = .returned (.int .i64 103) ∧ Below w.heap.size w w' := by
  have hu2 := Tryd.underlying56
  have hu3 := Tryd.underlying53
  have hDrank : decide (isNum rank) = true := decide_eq_true h_rank
  clear h_rank
  have hDcost : decide (isNum cost) = true := decide_eq_true h_cost
  clear h_cost
  have hDgrp : decide (isGrp kgrp) = true := decide_eq_true h_grp
  clear h_grp
  have hBrank0 : (rank == 0) = true := beq_iff_eq.2 h_rank0
  clear h_rank0
  have hBcost0 : (cost == 0) = false := beq_eq_false_iff_ne.2 h_cost0
  clear h_cost0
  go_enter Tryd.func31, Tryd.ntmps31
  go_wp2_with (first | (go_at_call 54; refine (cost_val _ _ _ (by assumption)).mono ?_; rintro e w2 ⟨rfl, rfl⟩) | (go_at_call 55; refine (rgrp_val _ _ _ (by assumption) hkg).mono ?_; rintro e w2 ⟨rfl, rfl⟩) | go_in)
  go_ret
  exact ⟨rfl, by repeat' (first | exact Below.refl _ _ | (refine below_alloc ?_ _))⟩
set_option maxHeartbeats 2000000 in
set_option maxRecDepth 100000 in
theorem rvalid2_only (src dst ksrc kgrp rank cost : Int) (only : Bool) (A : Option Addr) (n c : Nat) (w : World) (hn4 : n ≤ 4) (hkg : isAd kgrp) (h_rank : isNum rank) (h_cost : isNum cost) (h_grp : isGrp kgrp) (h_rank0 : rank = 0) (h_cost0 : cost = 0) (h_only : ¬ only = false) :
    Calls Tryd.prog 31 #[.agg #[.int .i64 2, .int .u32 src, .int .u32 dst, .int .u32 ksrc, .int .u32 kgrp, .int .i64 rank, .int .i64 cost, .bool only, .slice A n c]] w fun e w' => e = .returned (.int .i64 103) ∧ Below w.heap.size w w' := by
  have hu2 := Tryd.underlying56
  have hu3 := Tryd.underlying53
  have hDrank : decide (isNum rank) = true := decide_eq_true h_rank
  clear h_rank
  have hDcost : decide (isNum cost) = true := decide_eq_true h_cost
  clear h_cost
  have hDgrp : decide (isGrp kgrp) = true := decide_eq_true h_grp
  clear h_grp
  have hBrank0 : (rank == 0) = true := beq_iff_eq.2 h_rank0
  clear h_rank0
  have hBcost0 : (cost == 0) = true := beq_iff_eq.2 h_cost0
  clear h_cost0
  obtain rfl : only = true := by simpa using h_only
  clear h_only
  go_enter Tryd.func31, Tryd.ntmps31
  go_wp2_with (first | (go_at_call 54; refine (cost_val _ _ _ (by assumption)).mono ?_; rintro e w2 ⟨rfl, rfl⟩) | (go_at_call 55; refine (rgrp_val _ _ _ (by assumption) hkg).mono ?_; rintro e w2 ⟨rfl, rfl⟩) | go_in)
  go_ret
  exact ⟨rfl, by repeat' (first | exact Below.refl _ _ | (refine below_alloc ?_ _))⟩
set_option maxHeartbeats 2000000 in
set_option maxRecDepth 100000 in
theorem rvalid2_none (src dst ksrc kgrp rank cost : Int) (only : Bool) (A : Option Addr) (n c : Nat) (w : World) (hn4 : n ≤ 4) (hkg : isAd kgrp) (h_rank : isNum rank) (h_cost : isNum cost) (h_grp : isGrp kgrp) (h_rank0 : rank = 0) (h_cost0 : cost = 0) (h_only : only = false) (h_none : ¬ n = 0) :
    Calls Tryd.prog 31 #[.agg #[.int .i64 2, .int .u32 src, .int .u32 dst, .int .u32 ksrc, .int .u32 kgrp, .int .i64 rank, .int .i64 cost, .bool only, .slice A n c]] w fun e w' => e = .returned (.int .i64 103) ∧ Below w.heap.size w w' := by
  have hu2 := Tryd.underlying56
  have hu3 := Tryd.underlying53
  have hDrank : decide (isNum rank) = true := decide_eq_true h_rank
  clear h_rank
  have hDcost : decide (isNum cost) = true := decide_eq_true h_cost
  clear h_cost
  have hDgrp : decide (isGrp kgrp) = true := decide_eq_true h_grp
  clear h_grp
  have hBrank0 : (rank == 0) = true := beq_iff_eq.2 h_rank0
  clear h_rank0
  have hBcost0 : (cost == 0) = true := beq_iff_eq.2 h_cost0
  clear h_cost0
  obtain rfl : only = false := by simpa using h_only
  clear h_only
  have hBn : ((n : Int) == 0) = false := beq_eq_false_iff_ne.2 (by omega)
  clear h_none
  go_enter Tryd.func31, Tryd.ntmps31
  go_wp2_with (first | (go_at_call 54; refine (cost_val _ _ _ (by assumption)).mono ?_; rintro e w2 ⟨rfl, rfl⟩) | (go_at_call 55; refine (rgrp_val _ _ _ (by assumption) hkg).mono ?_; rintro e w2 ⟨rfl, rfl⟩) | go_in)
  go_ret
  exact ⟨rfl, by repeat' (first | exact Below.refl _ _ | (refine below_alloc ?_ _))⟩
set_option maxHeartbeats 2000000 in
set_option maxRecDepth 100000 in
theorem rvalid2_ok (src dst ksrc kgrp rank cost : Int) (only : Bool) (A : Option Addr) (n c : Nat) (w : World) (hn4 : n ≤ 4) (hkg : isAd kgrp) (h_rank : isNum rank) (h_cost : isNum cost) (h_grp : isGrp kgrp) (h_rank0 : rank = 0) (h_cost0 : cost = 0) (h_only : only = false) (h_none : n = 0) :
    Calls Tryd.prog 31 #[.agg #[.int .i64 2, .int .u32 src, .int .u32 dst, .int .u32 ksrc, .int .u32 kgrp, .int .i64 rank, .int .i64 cost, .bool only, .slice A n c]] w fun e w' => e = .returned (.int .i64 0) ∧ Below w.heap.size w w' := by
  have hu2 := Tryd.underlying56
  have hu3 := Tryd.underlying53
  have hDrank : decide (isNum rank) = true := decide_eq_true h_rank
  clear h_rank
  have hDcost : decide (isNum cost) = true := decide_eq_true h_cost
  clear h_cost
  have hDgrp : decide (isGrp kgrp) = true := decide_eq_true h_grp
  clear h_grp
  have hBrank0 : (rank == 0) = true := beq_iff_eq.2 h_rank0
  clear h_rank0
  have hBcost0 : (cost == 0) = true := beq_iff_eq.2 h_cost0
  clear h_cost0
  obtain rfl : only = false := by simpa using h_only
  clear h_only
  subst h_none
  go_enter Tryd.func31, Tryd.ntmps31
  go_wp2_with (first | (go_at_call 54; refine (cost_val _ _ _ (by assumption)).mono ?_; rintro e w2 ⟨rfl, rfl⟩) | (go_at_call 55; refine (rgrp_val _ _ _ (by assumption) hkg).mono ?_; rintro e w2 ⟨rfl, rfl⟩) | go_in)
  go_ret
  exact ⟨rfl, by repeat' (first | exact Below.refl _ _ | (refine below_alloc ?_ _))⟩
end Go.Proofs.YtbgbplbkombfjaaDoor
namespace Go.Proofs.YtbgbplbkombfjaaDoor
open Go.RowKit Go.Proofs.YtbgbplbkombfjaaDoorW.PrintWords SumPlain
set_option linter.unusedVariables false
set_option linter.unusedSimpArgs false
attribute [local go_sem] setCell_drewN alloc_drewN
set_option maxHeartbeats 2000000 in
set_option maxRecDepth 100000 in
theorem rvalid3_rank (src dst ksrc kgrp rank cost : Int) (only : Bool) (A : Option Addr) (n c : Nat) (w : World) (hn4 : n ≤ 4) (hkg : isAd kgrp)  (h_rank : ¬ isNum rank) :
    Calls Tryd.prog 31 #[.agg #[.int .i64 3, .int .u32 src, .int .u32 dst, .int .u32 ksrc, .int .u32 kgrp, .int .i64 rank, .int .i64 cost, .bool only, .slice A n c]] w fun e w' => e = .returned (.int .i64 103) ∧ Below w.heap.size w w' := by
  have hu2 := Tryd.underlying56
  have hu3 := Tryd.underlying53
  have hDrank : decide (isNum rank) = false := decide_eq_false h_rank
  clear h_rank
  go_enter Tryd.func31, Tryd.ntmps31
  go_wp2_with (first | (go_at_call 54; refine (cost_val _ _ _ (by assumption)).mono ?_; rintro e w2 ⟨rfl, rfl⟩) | (go_at_call 55; refine (rgrp_val _ _ _ (by assumption) hkg).mono ?_; rintro e w2 ⟨rfl, rfl⟩) | go_in)
  go_ret
  exact ⟨rfl, by repeat' (first | exact Below.refl _ _ | (refine below_alloc ?_ _))⟩
set_option maxHeartbeats 2000000 in
set_option maxRecDepth 100000 in
theorem rvalid3_cost (src dst ksrc kgrp rank cost : Int) (only : Bool) (A : Option Addr) (n c : Nat) (w : World) (hn4 : n ≤ 4) (hkg : isAd kgrp) (h_rank : isNum rank) (h_cost : ¬ isNum cost) :
    Calls Tryd.prog 31 #[.agg #[.int .i64 3, .int .u32 src, .int .u32 dst, .int .u32 ksrc, .int .u32 kgrp, .int .i64 rank, .int .i64 cost, .bool only, .slice A n c]] w fun e w' => e = .returned (.int .i64 103) ∧ Below w.heap.size w w' := by
  have hu2 := Tryd.underlying56
  have hu3 := Tryd.underlying53
  have hDrank : decide (isNum rank) = true := decide_eq_true h_rank
  clear h_rank
  have hDcost : decide (isNum cost) = false := decide_eq_false h_cost
  clear h_cost
  go_enter Tryd.func31, Tryd.ntmps31
  go_wp2_with (first | (go_at_call 54; refine (cost_val _ _ _ (by assumption)).mono ?_; rintro e w2 ⟨rfl, rfl⟩) | (go_at_call 55; refine (rgrp_val _ _ _ (by assumption) hkg).mono ?_; rintro e w2 ⟨rfl, rfl⟩) | go_in)
  go_ret
  exact ⟨rfl, by repeat' (first | exact Below.refl _ _ | (refine below_alloc ?_ _))⟩
set_option maxHeartbeats 2000000 in
set_option maxRecDepth 100000 in
theorem rvalid3_grp (src dst ksrc kgrp rank cost : Int) (only : Bool) (A : Option Addr) (n c : Nat) (w : World) (hn4 : n ≤ 4) (hkg : isAd kgrp) (h_rank : isNum rank) (h_cost : isNum cost) (h_grp : ¬ isGrp kgrp) :
    Calls Tryd.prog 31 #[.agg #[.int .i64 3, .int .u32 src, .int .u32 dst, .int .u32 ksrc, .int .u32 kgrp, .int .i64 rank, .int .i64 cost, .bool only, .slice A n c]] w fun e w' => e = .returned (.int .i64 103) ∧ Below w.heap.size w w' := by
  have hu2 := Tryd.underlying56
  have hu3 := Tryd.underlying53
  have hDrank : decide (isNum rank) = true := decide_eq_true h_rank
  clear h_rank
  have hDcost : decide (isNum cost) = true := decide_eq_true h_cost
  clear h_cost
  have hDgrp : decide (isGrp kgrp) = false := decide_eq_false h_grp
  clear h_grp
  go_enter Tryd.func31, Tryd.ntmps31
  go_wp2_with (first | (go_at_call 54; refine (cost_val _ _ _ (by assumption)).mono ?_; rintro e w2 ⟨rfl, rfl⟩) | (go_at_call 55; refine (rgrp_val _ _ _ (by assumption) hkg).mono ?_; rintro e w2 ⟨rfl, rfl⟩) | go_in)
  go_ret
  exact ⟨rfl, by repeat' (first | exact Below.refl _ _ | (refine below_alloc ?_ _))⟩
set_option maxHeartbeats 2000000 in
set_option maxRecDepth 100000 in
theorem rvalid3_rank0 (src dst ksrc kgrp rank cost : Int) (only : Bool) (A : Option Addr) (n c : Nat) (w : World) (hn4 : n ≤ 4) (hkg : isAd kgrp) (h_rank : isNum rank) (h_cost : isNum cost) (h_grp : isGrp kgrp) (h_rank0 : ¬ rank = 0) :
    Calls Tryd.prog 31 #[.agg #[.int .i64 3, .int .u32 src, .int .u32 dst, .int .u32 ksrc, .int .u32 kgrp, .int .i64 rank, .int .i64 cost, .bool only, .slice A n c]] w fun e w' => e = .returned (.int .i64 103) ∧ Below w.heap.size w w' := by
  have hu2 := Tryd.underlying56
  have hu3 := Tryd.underlying53
  have hDrank : decide (isNum rank) = true := decide_eq_true h_rank
  clear h_rank
  have hDcost : decide (isNum cost) = true := decide_eq_true h_cost
  clear h_cost
  have hDgrp : decide (isGrp kgrp) = true := decide_eq_true h_grp
  clear h_grp
  have hBrank0 : (rank == 0) = false := beq_eq_false_iff_ne.2 h_rank0
  clear h_rank0
  go_enter Tryd.func31, Tryd.ntmps31
  go_wp2_with (first | (go_at_call 54; refine (cost_val _ _ _ (by assumption)).mono ?_; rintro e w2 ⟨rfl, rfl⟩) | (go_at_call 55; refine (rgrp_val _ _ _ (by assumption) hkg).mono ?_; rintro e w2 ⟨rfl, rfl⟩) | go_in)
  go_ret
  exact ⟨rfl, by repeat' (first | exact Below.refl _ _ | (refine below_alloc ?_ _))⟩
set_option maxHeartbeats 2000000 in
set_option maxRecDepth 100000 in
theorem rvalid3_dst (src dst ksrc kgrp rank cost : Int) (only : Bool) (A : Option Addr) (n c : Nat) (w : World) (hn4 : n ≤ 4) (hkg : isAd kgrp) (h_rank : isNum rank) (h_cost : isNum cost) (h_grp : isGrp kgrp) (h_rank0 : rank = 0) (h_dst : ¬ dst = 0) :
    Calls Tryd.prog 31 #[.agg #[.int .i64 3, .int .u32 src, .int .u32 dst, .int .u32 ksrc, .int .u32 kgrp, .int .i64 rank, .int .i64 cost, .bool only, .slice A n c]] w fun e w' => e = .returned (.int .i64 103) ∧ Below w.heap.size w w' := by
  have hu2 := Tryd.underlying56
  have hu3 := Tryd.underlying53
  have hDrank : decide (isNum rank) = true := decide_eq_true h_rank
  clear h_rank
  have hDcost : decide (isNum cost) = true := decide_eq_true h_cost
  clear h_cost
  have hDgrp : decide (isGrp kgrp) = true := decide_eq_true h_grp
  clear h_grp
  have hBrank0 : (rank == 0) = true := beq_iff_eq.2 h_rank0
  clear h_rank0
  have hBdst : (dst == 0) = false := beq_eq_false_iff_ne.2 h_dst
  clear h_dst
  go_enter Tryd.func31, Tryd.ntmps31
  go_wp2_with (first | (go_at_call 54; refine (cost_val _ _ _ (by assumption)).mono ?_; rintro e w2 ⟨rfl, rfl⟩) | (go_at_call 55; refine (rgrp_val _ _ _ (by assumption) hkg).mono ?_; rintro e w2 ⟨rfl, rfl⟩) | go_in)
  go_ret
  exact ⟨rfl, by repeat' (first | exact Below.refl _ _ | (refine below_alloc ?_ _))⟩
set_option maxHeartbeats 2000000 in
set_option maxRecDepth 100000 in
theorem rvalid3_only (src dst ksrc kgrp rank cost : Int) (only : Bool) (A : Option Addr) (n c : Nat) (w : World) (hn4 : n ≤ 4) (hkg : isAd kgrp) (h_rank : isNum rank) (h_cost : isNum cost) (h_grp : isGrp kgrp) (h_rank0 : rank = 0) (h_dst : dst = 0) (h_only : ¬ only = false) :
    Calls Tryd.prog 31 #[.agg #[.int .i64 3, .int .u32 src, .int .u32 dst, .int .u32 ksrc, .int .u32 kgrp, .int .i64 rank, .int .i64 cost, .bool only, .slice A n c]] w fun e w' => e = .returned (.int .i64 103) ∧ Below w.heap.size w w' := by
  have hu2 := Tryd.underlying56
  have hu3 := Tryd.underlying53
  have hDrank : decide (isNum rank) = true := decide_eq_true h_rank
  clear h_rank
  have hDcost : decide (isNum cost) = true := decide_eq_true h_cost
  clear h_cost
  have hDgrp : decide (isGrp kgrp) = true := decide_eq_true h_grp
  clear h_grp
  have hBrank0 : (rank == 0) = true := beq_iff_eq.2 h_rank0
  clear h_rank0
  have hBdst : (dst == 0) = true := beq_iff_eq.2 h_dst
  clear h_dst
  obtain rfl : only = true := by simpa using h_only
  clear h_only
  go_enter Tryd.func31, Tryd.ntmps31
  go_wp2_with (first | (go_at_call 54; refine (cost_val _ _ _ (by assumption)).mono ?_; rintro e w2 ⟨rfl, rfl⟩) | (go_at_call 55; refine (rgrp_val _ _ _ (by assumption) hkg).mono ?_; rintro e w2 ⟨rfl, rfl⟩) | go_in)
  go_ret
  exact ⟨rfl, by repeat' (first | exact Below.refl _ _ | (refine below_alloc ?_ _))⟩
set_option maxHeartbeats 2000000 in
set_option maxRecDepth 100000 in
theorem rvalid3_none (src dst ksrc kgrp rank cost : Int) (only : Bool) (A : Option Addr) (n c : Nat) (w : World) (hn4 : n ≤ 4) (hkg : isAd kgrp) (h_rank : isNum rank) (h_cost : isNum cost) (h_grp : isGrp kgrp) (h_rank0 : rank = 0) (h_dst : dst = 0) (h_only : only = false) (h_none : ¬ n = 0) :
    Calls Tryd.prog 31 #[.agg #[.int .i64 3, .int .u32 src, .int .u32 dst, .int .u32 ksrc, .int .u32 kgrp, .int .i64 rank, .int .i64 cost, .bool only, .slice A n c]] w fun e w' => e = .returned (.int .i64 103) ∧ Below w.heap.size w w' := by
  have hu2 := Tryd.underlying56
  have hu3 := Tryd.underlying53
  have hDrank : decide (isNum rank) = true := decide_eq_true h_rank
  clear h_rank
  have hDcost : decide (isNum cost) = true := decide_eq_true h_cost
  clear h_cost
  have hDgrp : decide (isGrp kgrp) = true := decide_eq_true h_grp
  clear h_grp
  have hBrank0 : (rank == 0) = true := beq_iff_eq.2 h_rank0
  clear h_rank0
  have hBdst : (dst == 0) = true := beq_iff_eq.2 h_dst
  clear h_dst
  obtain rfl : only = false := by simpa using h_only
  clear h_only
  have hBn : ((n : Int) == 0) = false := beq_eq_false_iff_ne.2 (by omega)
  clear h_none
  go_enter Tryd.func31, Tryd.ntmps31
  go_wp2_with (first | (go_at_call 54; refine (cost_val _ _ _ (by assumption)).mono ?_; rintro e w2 ⟨rfl, rfl⟩) | (go_at_call 55; refine (rgrp_val _ _ _ (by assumption) hkg).mono ?_; rintro e w2 ⟨rfl, rfl⟩) | go_in)
  go_ret
  exact ⟨rfl, by repeat' (first | exact Below.refl _ _ | (refine below_alloc ?_ _))⟩
set_option maxHeartbeats 2000000 in
set_option maxRecDepth 100000 in
theorem rvalid3_ok (src dst ksrc kgrp rank cost : Int) (only : Bool) (A : Option Addr) (n c : Nat) (w : World) (hn4 : n ≤ 4) (hkg : isAd kgrp) (h_rank : isNum rank) (h_cost : isNum cost) (h_grp : isGrp kgrp) (h_rank0 : rank = 0) (h_dst : dst = 0) (h_only : only = false) (h_none : n = 0) :
    Calls Tryd.prog 31 #[.agg #[.int .i64 3, .int .u32 src, .int .u32 dst, .int .u32 ksrc, .int .u32 kgrp, .int .i64 rank, .int .i64 cost, .bool only, .slice A n c]] w fun e w' => e = .returned (.int .i64 0) ∧ Below w.heap.size w w' := by
  have hu2 := Tryd.underlying56
  have hu3 := Tryd.underlying53
  have hDrank : decide (isNum rank) = true := decide_eq_true h_rank
  clear h_rank
  have hDcost : decide (isNum cost) = true := decide_eq_true h_cost
  clear h_cost
  have hDgrp : decide (isGrp kgrp) = true := decide_eq_true h_grp
  clear h_grp
  have hBrank0 : (rank == 0) = true := beq_iff_eq.2 h_rank0
  clear h_rank0
  have hBdst : (dst == 0) = true := beq_iff_eq.2 h_dst
  clear h_dst
  obtain rfl : only = false := by simpa using h_only
  clear h_only
  subst h_none
  go_enter Tryd.func31, Tryd.ntmps31
  go_wp2_with (first | (go_at_call 54; refine (cost_val _ _ _ (by assumption)).mono ?_; rintro e w2 ⟨rfl, rfl⟩) | (go_at_call 55; refine (rgrp_val _ _ _ (by assumption) hkg).mono ?_; rintro e w2 ⟨rfl, rfl⟩) | go_in)
  go_ret
  exact ⟨rfl, by repeat' (first | exact Below.refl _ _ | (refine below_alloc ?_ _))⟩
end Go.Proofs.YtbgbplbkombfjaaDoor
namespace Go.Proofs.YtbgbplbkombfjaaDoor
open Go.RowKit Go.Proofs.YtbgbplbkombfjaaDoorW.PrintWords SumPlain
set_option linter.unusedVariables false
set_option linter.unusedSimpArgs false
attribute [local go_sem] setCell_drewN alloc_drewN
set_option maxHeartbeats 2000000 in
set_option maxRecDepth 100000 in
theorem rvalid4_rank (src dst ksrc kgrp rank cost : Int) (only : Bool) (A : Option Addr) (n c : Nat) (w : World) (hn4 : n ≤ 4) (hkg : isAd kgrp)  (h_rank : ¬ isNum rank) :
    Calls Tryd.prog 31 #[.agg #[.int .i64 4, .int .u32 src, .int .u32 dst, .int .u32 ksrc, .int .u32 kgrp, .int .i64 rank, .int .i64 cost, .bool only, .slice A n c]] w fun e w' => e = .returned (.int .i64 103) ∧ Below w.heap.size w w' := by
  have hu2 := Tryd.underlying56
  have hu3 := Tryd.underlying53
  have hDrank : decide (isNum rank) = false := decide_eq_false h_rank
  clear h_rank
  go_enter Tryd.func31, Tryd.ntmps31
  go_wp2_with (first | (go_at_call 54; refine (cost_val _ _ _ (by assumption)).mono ?_; rintro e w2 ⟨rfl, rfl⟩) | (go_at_call 55; refine (rgrp_val _ _ _ (by assumption) hkg).mono ?_; rintro e w2 ⟨rfl, rfl⟩) | go_in)
  go_ret
  exact ⟨rfl, by repeat' (first | exact Below.refl _ _ | (refine below_alloc ?_ _))⟩
set_option maxHeartbeats 2000000 in
set_option maxRecDepth 100000 in
theorem rvalid4_cost (src dst ksrc kgrp rank cost : Int) (only : Bool) (A : Option Addr) (n c : Nat) (w : World) (hn4 : n ≤ 4) (hkg : isAd kgrp) (h_rank : isNum rank) (h_cost : ¬ isNum cost) :
    Calls Tryd.prog 31 #[.agg #[.int .i64 4, .int .u32 src, .int .u32 dst, .int .u32 ksrc, .int .u32 kgrp, .int .i64 rank, .int .i64 cost, .bool only, .slice A n c]] w fun e w' => e = .returned (.int .i64 103) ∧ Below w.heap.size w w' := by
  have hu2 := Tryd.underlying56
  have hu3 := Tryd.underlying53
  have hDrank : decide (isNum rank) = true := decide_eq_true h_rank
  clear h_rank
  have hDcost : decide (isNum cost) = false := decide_eq_false h_cost
  clear h_cost
  go_enter Tryd.func31, Tryd.ntmps31
  go_wp2_with (first | (go_at_call 54; refine (cost_val _ _ _ (by assumption)).mono ?_; rintro e w2 ⟨rfl, rfl⟩) | (go_at_call 55; refine (rgrp_val _ _ _ (by assumption) hkg).mono ?_; rintro e w2 ⟨rfl, rfl⟩) | go_in)
  go_ret
  exact ⟨rfl, by repeat' (first | exact Below.refl _ _ | (refine below_alloc ?_ _))⟩
set_option maxHeartbeats 2000000 in
set_option maxRecDepth 100000 in
theorem rvalid4_grp (src dst ksrc kgrp rank cost : Int) (only : Bool) (A : Option Addr) (n c : Nat) (w : World) (hn4 : n ≤ 4) (hkg : isAd kgrp) (h_rank : isNum rank) (h_cost : isNum cost) (h_grp : ¬ isGrp kgrp) :
    Calls Tryd.prog 31 #[.agg #[.int .i64 4, .int .u32 src, .int .u32 dst, .int .u32 ksrc, .int .u32 kgrp, .int .i64 rank, .int .i64 cost, .bool only, .slice A n c]] w fun e w' => e = .returned (.int .i64 103) ∧ Below w.heap.size w w' := by
  have hu2 := Tryd.underlying56
  have hu3 := Tryd.underlying53
  have hDrank : decide (isNum rank) = true := decide_eq_true h_rank
  clear h_rank
  have hDcost : decide (isNum cost) = true := decide_eq_true h_cost
  clear h_cost
  have hDgrp : decide (isGrp kgrp) = false := decide_eq_false h_grp
  clear h_grp
  go_enter Tryd.func31, Tryd.ntmps31
  go_wp2_with (first | (go_at_call 54; refine (cost_val _ _ _ (by assumption)).mono ?_; rintro e w2 ⟨rfl, rfl⟩) | (go_at_call 55; refine (rgrp_val _ _ _ (by assumption) hkg).mono ?_; rintro e w2 ⟨rfl, rfl⟩) | go_in)
  go_ret
  exact ⟨rfl, by repeat' (first | exact Below.refl _ _ | (refine below_alloc ?_ _))⟩
set_option maxHeartbeats 2000000 in
set_option maxRecDepth 100000 in
theorem rvalid4_rank0 (src dst ksrc kgrp rank cost : Int) (only : Bool) (A : Option Addr) (n c : Nat) (w : World) (hn4 : n ≤ 4) (hkg : isAd kgrp) (h_rank : isNum rank) (h_cost : isNum cost) (h_grp : isGrp kgrp) (h_rank0 : ¬ rank = 0) :
    Calls Tryd.prog 31 #[.agg #[.int .i64 4, .int .u32 src, .int .u32 dst, .int .u32 ksrc, .int .u32 kgrp, .int .i64 rank, .int .i64 cost, .bool only, .slice A n c]] w fun e w' => e = .returned (.int .i64 103) ∧ Below w.heap.size w w' := by
  have hu2 := Tryd.underlying56
  have hu3 := Tryd.underlying53
  have hDrank : decide (isNum rank) = true := decide_eq_true h_rank
  clear h_rank
  have hDcost : decide (isNum cost) = true := decide_eq_true h_cost
  clear h_cost
  have hDgrp : decide (isGrp kgrp) = true := decide_eq_true h_grp
  clear h_grp
  have hBrank0 : (rank == 0) = false := beq_eq_false_iff_ne.2 h_rank0
  clear h_rank0
  go_enter Tryd.func31, Tryd.ntmps31
  go_wp2_with (first | (go_at_call 54; refine (cost_val _ _ _ (by assumption)).mono ?_; rintro e w2 ⟨rfl, rfl⟩) | (go_at_call 55; refine (rgrp_val _ _ _ (by assumption) hkg).mono ?_; rintro e w2 ⟨rfl, rfl⟩) | go_in)
  go_ret
  exact ⟨rfl, by repeat' (first | exact Below.refl _ _ | (refine below_alloc ?_ _))⟩
set_option maxHeartbeats 2000000 in
set_option maxRecDepth 100000 in
theorem rvalid4_cost0 (src dst ksrc kgrp rank cost : Int) (only : Bool) (A : Option Addr) (n c : Nat) (w : World) (hn4 : n ≤ 4) (hkg : isAd kgrp) (h_rank : isNum rank) (h_cost : isNum cost) (h_grp : isGrp kgrp) (h_rank0 : rank = 0) (h_cost0 : ¬ cost = 0) :
    Calls Tryd.prog 31 #[.agg #[.int .i64 4, .int .u32 src, .int .u32 dst, .int .u32 ksrc, .int .u32 kgrp, .int .i64 rank, .int .i64 cost, .bool only, .slice A n c]] w fun e w' => e = .returned (.int .i64 103) ∧ Below w.heap.size w w' := by
  have hu2 := Tryd.underlying56
  have hu3 := Tryd.underlying53
  have hDrank : decide (isNum rank) = true := decide_eq_true h_rank
  clear h_rank
  have hDcost : decide (isNum cost) = true := decide_eq_true h_cost
  clear h_cost
  have hDgrp : decide (isGrp kgrp) = true := decide_eq_true h_grp
  clear h_grp
  have hBrank0 : (rank == 0) = true := beq_iff_eq.2 h_rank0
  clear h_rank0
  have hBcost0 : (cost == 0) = false := beq_eq_false_iff_ne.2 h_cost0
  clear h_cost0
  go_enter Tryd.func31, Tryd.ntmps31
  go_wp2_with (first | (go_at_call 54; refine (cost_val _ _ _ (by assumption)).mono ?_; rintro e w2 ⟨rfl, rfl⟩) | (go_at_call 55; refine (rgrp_val _ _ _ (by assumption) hkg).mono ?_; rintro e w2 ⟨rfl, rfl⟩) | go_in)
  go_ret
  exact ⟨rfl, by repeat' (first | exact Below.refl _ _ | (refine below_alloc ?_ _))⟩
set_option maxHeartbeats 2000000 in
set_option maxRecDepth 100000 in
theorem rvalid4_dst (src dst ksrc kgrp rank cost : Int) (only : Bool) (A : Option Addr) (n c : Nat) (w : World) (hn4 : n ≤ 4) (hkg : isAd kgrp) (h_rank : isNum rank) (h_cost : isNum cost) (h_grp : isGrp kgrp) (h_rank0 : rank = 0) (h_cost0 : cost = 0) (h_dst : ¬ dst = 0) :
    Calls Tryd.prog 31 #[.agg #[.int .i64 4, .int .u32 src, .int .u32 dst, .int .u32 ksrc, .int .u32 kgrp, .int .i64 rank, .int .i64 cost, .bool only, .slice A n c]] w fun e w' => e = .returned (.int .i64 103) ∧ Below w.heap.size w w' := by
  have hu2 := Tryd.underlying56
  have hu3 := Tryd.underlying53
  have hDrank : decide (isNum rank) = true := decide_eq_true h_rank
  clear h_rank
  have hDcost : decide (isNum cost) = true := decide_eq_true h_cost
  clear h_cost
  have hDgrp : decide (isGrp kgrp) = true := decide_eq_true h_grp
  clear h_grp
  have hBrank0 : (rank == 0) = true := beq_iff_eq.2 h_rank0
  clear h_rank0
  have hBcost0 : (cost == 0) = true := beq_iff_eq.2 h_cost0
  clear h_cost0
  have hBdst : (dst == 0) = false := beq_eq_false_iff_ne.2 h_dst
  clear h_dst
  go_enter Tryd.func31, Tryd.ntmps31
  go_wp2_with (first | (go_at_call 54; refine (cost_val _ _ _ (by assumption)).mono ?_; rintro e w2 ⟨rfl, rfl⟩) | (go_at_call 55; refine (rgrp_val _ _ _ (by assumption) hkg).mono ?_; rintro e w2 ⟨rfl, rfl⟩) | go_in)
  go_ret
  exact ⟨rfl, by repeat' (first | exact Below.refl _ _ | (refine below_alloc ?_ _))⟩
set_option maxHeartbeats 2000000 in
set_option maxRecDepth 100000 in
theorem rvalid4_ksrc (src dst ksrc kgrp rank cost : Int) (only : Bool) (A : Option Addr) (n c : Nat) (w : World) (hn4 : n ≤ 4) (hkg : isAd kgrp) (h_rank : isNum rank) (h_cost : isNum cost) (h_grp : isGrp kgrp) (h_rank0 : rank = 0) (h_cost0 : cost = 0) (h_dst : dst = 0) (h_ksrc : ¬ ksrc = 0) :
    Calls Tryd.prog 31 #[.agg #[.int .i64 4, .int .u32 src, .int .u32 dst, .int .u32 ksrc, .int .u32 kgrp, .int .i64 rank, .int .i64 cost, .bool only, .slice A n c]] w fun e w' => e = .returned (.int .i64 103) ∧ Below w.heap.size w w' := by
  have hu2 := Tryd.underlying56
  have hu3 := Tryd.underlying53
  have hDrank : decide (isNum rank) = true := decide_eq_true h_rank
  clear h_rank
  have hDcost : decide (isNum cost) = true := decide_eq_true h_cost
  clear h_cost
  have hDgrp : decide (isGrp kgrp) = true := decide_eq_true h_grp
  clear h_grp
  have hBrank0 : (rank == 0) = true := beq_iff_eq.2 h_rank0
  clear h_rank0
  have hBcost0 : (cost == 0) = true := beq_iff_eq.2 h_cost0
  clear h_cost0
  have hBdst : (dst == 0) = true := beq_iff_eq.2 h_dst
  clear h_dst
  have hBksrc : (ksrc == 0) = false := beq_eq_false_iff_ne.2 h_ksrc
  clear h_ksrc
  go_enter Tryd.func31, Tryd.ntmps31
  go_wp2_with (first | (go_at_call 54; refine (cost_val _ _ _ (by assumption)).mono ?_; rintro e w2 ⟨rfl, rfl⟩) | (go_at_call 55; refine (rgrp_val _ _ _ (by assumption) hkg).mono ?_; rintro e w2 ⟨rfl, rfl⟩) | go_in)
  go_ret
  exact ⟨rfl, by repeat' (first | exact Below.refl _ _ | (refine below_alloc ?_ _))⟩
set_option maxHeartbeats 2000000 in
set_option maxRecDepth 100000 in
theorem rvalid4_ok (src dst ksrc kgrp rank cost : Int) (only : Bool) (A : Option Addr) (n c : Nat) (w : World) (hn4 : n ≤ 4) (hkg : isAd kgrp) (h_rank : isNum rank) (h_cost : isNum cost) (h_grp : isGrp kgrp) (h_rank0 : rank = 0) (h_cost0 : cost = 0) (h_dst : dst = 0) (h_ksrc : ksrc = 0) :
    Calls Tryd.prog 31 #[.agg #[.int .i64 4, .int .u32 src, .int .u32 dst, .int .u32 ksrc, .int .u32 kgrp, .int .i64 rank, .int .i64 cost, .bool only, .slice A n c]] w fun e w' => e = .returned (.int .i64 0) ∧ Below w.heap.size w w' := by
  have hu2 := Tryd.underlying56
  have hu3 := Tryd.underlying53
  have hDrank : decide (isNum rank) = true := decide_eq_true h_rank
  clear h_rank
  have hDcost : decide (isNum cost) = true := decide_eq_true h_cost
  clear h_cost
  have hDgrp : decide (isGrp kgrp) = true := decide_eq_true h_grp
  clear h_grp
  have hBrank0 : (rank == 0) = true := beq_iff_eq.2 h_rank0
  clear h_rank0
  have hBcost0 : (cost == 0) = true := beq_iff_eq.2 h_cost0
  clear h_cost0
  have hBdst : (dst == 0) = true := beq_iff_eq.2 h_dst
  clear h_dst
  have hBksrc : (ksrc == 0) = true := beq_iff_eq.2 h_ksrc
  clear h_ksrc
  go_enter Tryd.func31, Tryd.ntmps31
  go_wp2_with (first | (go_at_call 54; refine (cost_val _ _ _ (by assumption)).mono ?_; rintro e w2 ⟨rfl, rfl⟩) | (go_at_call 55; refine (rgrp_val _ _ _ (by assumption) hkg).mono ?_; rintro e w2 ⟨rfl, rfl⟩) | go_in)
  go_ret
  exact ⟨rfl, by repeat' (first | exact Below.refl _ _ | (refine below_alloc ?_ _))⟩
end Go.Proofs.YtbgbplbkombfjaaDoor
namespace Go.Proofs.YtbgbplbkombfjaaDoor
open Go.RowKit Go.Proofs.YtbgbplbkombfjaaDoorW.PrintWords SumPlain
set_option linter.unusedVariables false
set_option linter.unusedSimpArgs false
attribute [local go_sem] setCell_drewN alloc_drewN
set_option maxHeartbeats 2000000 in
set_option maxRecDepth 100000 in
theorem rvalid5_rank (src dst ksrc kgrp rank cost : Int) (only : Bool) (A : Option Addr) (n c : Nat) (w : World) (hn4 : n ≤ 4) (hkg : isAd kgrp)  (h_rank : ¬ isNum rank) :
    Calls Tryd.prog 31 #[.agg #[.int .i64 5, .int .u32 src, .int .u32 dst, .int .u32 ksrc, .int .u32 kgrp, .int .i64 rank, .int .i64 cost, .bool only, .slice A n c]] w fun e w' => e = .returned (.int .i64 103) ∧ Below w.heap.size w w' := by
  have hu2 := Tryd.underlying56
  have hu3 := Tryd.underlying53
  have hDrank : decide (isNum rank) = false := decide_eq_false h_rank
  clear h_rank
  go_enter Tryd.func31, Tryd.ntmps31
  go_wp2_with (first | (go_at_call 54; refine (cost_val _ _ _ (by assumption)).mono ?_; rintro e w2 ⟨rfl, rfl⟩) | (go_at_call 55; refine (rgrp_val _ _ _ (by assumption) hkg).mono ?_; rintro e w2 ⟨rfl, rfl⟩) | go_in)
  go_ret
  exact ⟨rfl, by repeat' (first | exact Below.refl _ _ | (refine below_alloc ?_ _))⟩
set_option maxHeartbeats 2000000 in
set_option maxRecDepth 100000 in
theorem rvalid5_cost (src dst ksrc kgrp rank cost : Int) (only : Bool) (A : Option Addr) (n c : Nat) (w : World) (hn4 : n ≤ 4) (hkg : isAd kgrp) (h_rank : isNum rank) (h_cost : ¬ isNum cost) :
    Calls Tryd.prog 31 #[.agg #[.int .i64 5, .int .u32 src, .int .u32 dst, .int .u32 ksrc, .int .u32 kgrp, .int .i64 rank, .int .i64 cost, .bool only, .slice A n c]] w fun e w' => e = .returned (.int .i64 103) ∧ Below w.heap.size w w' := by
  have hu2 := Tryd.underlying56
  have hu3 := Tryd.underlying53
  have hDrank : decide (isNum rank) = true := decide_eq_true h_rank
  clear h_rank
  have hDcost : decide (isNum cost) = false := decide_eq_false h_cost
  clear h_cost
  go_enter Tryd.func31, Tryd.ntmps31
  go_wp2_with (first | (go_at_call 54; refine (cost_val _ _ _ (by assumption)).mono ?_; rintro e w2 ⟨rfl, rfl⟩) | (go_at_call 55; refine (rgrp_val _ _ _ (by assumption) hkg).mono ?_; rintro e w2 ⟨rfl, rfl⟩) | go_in)
  go_ret
  exact ⟨rfl, by repeat' (first | exact Below.refl _ _ | (refine below_alloc ?_ _))⟩
set_option maxHeartbeats 2000000 in
set_option maxRecDepth 100000 in
theorem rvalid5_grp (src dst ksrc kgrp rank cost : Int) (only : Bool) (A : Option Addr) (n c : Nat) (w : World) (hn4 : n ≤ 4) (hkg : isAd kgrp) (h_rank : isNum rank) (h_cost : isNum cost) (h_grp : ¬ isGrp kgrp) :
    Calls Tryd.prog 31 #[.agg #[.int .i64 5, .int .u32 src, .int .u32 dst, .int .u32 ksrc, .int .u32 kgrp, .int .i64 rank, .int .i64 cost, .bool only, .slice A n c]] w fun e w' => e = .returned (.int .i64 103) ∧ Below w.heap.size w w' := by
  have hu2 := Tryd.underlying56
  have hu3 := Tryd.underlying53
  have hDrank : decide (isNum rank) = true := decide_eq_true h_rank
  clear h_rank
  have hDcost : decide (isNum cost) = true := decide_eq_true h_cost
  clear h_cost
  have hDgrp : decide (isGrp kgrp) = false := decide_eq_false h_grp
  clear h_grp
  go_enter Tryd.func31, Tryd.ntmps31
  go_wp2_with (first | (go_at_call 54; refine (cost_val _ _ _ (by assumption)).mono ?_; rintro e w2 ⟨rfl, rfl⟩) | (go_at_call 55; refine (rgrp_val _ _ _ (by assumption) hkg).mono ?_; rintro e w2 ⟨rfl, rfl⟩) | go_in)
  go_ret
  exact ⟨rfl, by repeat' (first | exact Below.refl _ _ | (refine below_alloc ?_ _))⟩
set_option maxHeartbeats 2000000 in
set_option maxRecDepth 100000 in
theorem rvalid5_rank0 (src dst ksrc kgrp rank cost : Int) (only : Bool) (A : Option Addr) (n c : Nat) (w : World) (hn4 : n ≤ 4) (hkg : isAd kgrp) (h_rank : isNum rank) (h_cost : isNum cost) (h_grp : isGrp kgrp) (h_rank0 : ¬ rank = 0) :
    Calls Tryd.prog 31 #[.agg #[.int .i64 5, .int .u32 src, .int .u32 dst, .int .u32 ksrc, .int .u32 kgrp, .int .i64 rank, .int .i64 cost, .bool only, .slice A n c]] w fun e w' => e = .returned (.int .i64 103) ∧ Below w.heap.size w w' := by
  have hu2 := Tryd.underlying56
  have hu3 := Tryd.underlying53
  have hDrank : decide (isNum rank) = true := decide_eq_true h_rank
  clear h_rank
  have hDcost : decide (isNum cost) = true := decide_eq_true h_cost
  clear h_cost
  have hDgrp : decide (isGrp kgrp) = true := decide_eq_true h_grp
  clear h_grp
  have hBrank0 : (rank == 0) = false := beq_eq_false_iff_ne.2 h_rank0
  clear h_rank0
  go_enter Tryd.func31, Tryd.ntmps31
  go_wp2_with (first | (go_at_call 54; refine (cost_val _ _ _ (by assumption)).mono ?_; rintro e w2 ⟨rfl, rfl⟩) | (go_at_call 55; refine (rgrp_val _ _ _ (by assumption) hkg).mono ?_; rintro e w2 ⟨rfl, rfl⟩) | go_in)
  go_ret
  exact ⟨rfl, by repeat' (first | exact Below.refl _ _ | (refine below_alloc ?_ _))⟩
set_option maxHeartbeats 2000000 in
set_option maxRecDepth 100000 in
theorem rvalid5_cost0 (src dst ksrc kgrp rank cost : Int) (only : Bool) (A : Option Addr) (n c : Nat) (w : World) (hn4 : n ≤ 4) (hkg : isAd kgrp) (h_rank : isNum rank) (h_cost : isNum cost) (h_grp : isGrp kgrp) (h_rank0 : rank = 0) (h_cost0 : ¬ cost = 0) :
    Calls Tryd.prog 31 #[.agg #[.int .i64 5, .int .u32 src, .int .u32 dst, .int .u32 ksrc, .int .u32 kgrp, .int .i64 rank, .int .i64 cost, .bool only, .slice A n c]] w fun e w' => e = .returned (.int .i64 103) ∧ Below w.heap.size w w' := by
  have hu2 := Tryd.underlying56
  have hu3 := Tryd.underlying53
  have hDrank : decide (isNum rank) = true := decide_eq_true h_rank
  clear h_rank
  have hDcost : decide (isNum cost) = true := decide_eq_true h_cost
  clear h_cost
  have hDgrp : decide (isGrp kgrp) = true := decide_eq_true h_grp
  clear h_grp
  have hBrank0 : (rank == 0) = true := beq_iff_eq.2 h_rank0
  clear h_rank0
  have hBcost0 : (cost == 0) = false := beq_eq_false_iff_ne.2 h_cost0
  clear h_cost0
  go_enter Tryd.func31, Tryd.ntmps31
  go_wp2_with (first | (go_at_call 54; refine (cost_val _ _ _ (by assumption)).mono ?_; rintro e w2 ⟨rfl, rfl⟩) | (go_at_call 55; refine (rgrp_val _ _ _ (by assumption) hkg).mono ?_; rintro e w2 ⟨rfl, rfl⟩) | go_in)
  go_ret
  exact ⟨rfl, by repeat' (first | exact Below.refl _ _ | (refine below_alloc ?_ _))⟩
set_option maxHeartbeats 2000000 in
set_option maxRecDepth 100000 in
theorem rvalid5_dst (src dst ksrc kgrp rank cost : Int) (only : Bool) (A : Option Addr) (n c : Nat) (w : World) (hn4 : n ≤ 4) (hkg : isAd kgrp) (h_rank : isNum rank) (h_cost : isNum cost) (h_grp : isGrp kgrp) (h_rank0 : rank = 0) (h_cost0 : cost = 0) (h_dst : ¬ dst = 0) :
    Calls Tryd.prog 31 #[.agg #[.int .i64 5, .int .u32 src, .int .u32 dst, .int .u32 ksrc, .int .u32 kgrp, .int .i64 rank, .int .i64 cost, .bool only, .slice A n c]] w fun e w' => e = .returned (.int .i64 103) ∧ Below w.heap.size w w' := by
  have hu2 := Tryd.underlying56
  have hu3 := Tryd.underlying53
  have hDrank : decide (isNum rank) = true := decide_eq_true h_rank
  clear h_rank
  have hDcost : decide (isNum cost) = true := decide_eq_true h_cost
  clear h_cost
  have hDgrp : decide (isGrp kgrp) = true := decide_eq_true h_grp
  clear h_grp
  have hBrank0 : (rank == 0) = true := beq_iff_eq.2 h_rank0
  clear h_rank0
  have hBcost0 : (cost == 0) = true := beq_iff_eq.2 h_cost0
  clear h_cost0
  have hBdst : (dst == 0) = false := beq_eq_false_iff_ne.2 h_dst
  clear h_dst
  go_enter Tryd.func31, Tryd.ntmps31
  go_wp2_with (first | (go_at_call 54; refine (cost_val _ _ _ (by assumption)).mono ?_; rintro e w2 ⟨rfl, rfl⟩) | (go_at_call 55; refine (rgrp_val _ _ _ (by assumption) hkg).mono ?_; rintro e w2 ⟨rfl, rfl⟩) | go_in)
  go_ret
  exact ⟨rfl, by repeat' (first | exact Below.refl _ _ | (refine below_alloc ?_ _))⟩
set_option maxHeartbeats 2000000 in
set_option maxRecDepth 100000 in
theorem rvalid5_only (src dst ksrc kgrp rank cost : Int) (only : Bool) (A : Option Addr) (n c : Nat) (w : World) (hn4 : n ≤ 4) (hkg : isAd kgrp) (h_rank : isNum rank) (h_cost : isNum cost) (h_grp : isGrp kgrp) (h_rank0 : rank = 0) (h_cost0 : cost = 0) (h_dst : dst = 0) (h_only : ¬ only = false) :
    Calls Tryd.prog 31 #[.agg #[.int .i64 5, .int .u32 src, .int .u32 dst, .int .u32 ksrc, .int .u32 kgrp, .int .i64 rank, .int .i64 cost, .bool only, .slice A n c]] w fun e w' => e = .returned (.int .i64 103) ∧ Below w.heap.size w w' := by
  have hu2 := Tryd.underlying56
  have hu3 := Tryd.underlying53
  have hDrank : decide (isNum rank) = true := decide_eq_true h_rank
  clear h_rank
  have hDcost : decide (isNum cost) = true := decide_eq_true h_cost
  clear h_cost
  have hDgrp : decide (isGrp kgrp) = true := decide_eq_true h_grp
  clear h_grp
  have hBrank0 : (rank == 0) = true := beq_iff_eq.2 h_rank0
  clear h_rank0
  have hBcost0 : (cost == 0) = true := beq_iff_eq.2 h_cost0
  clear h_cost0
  have hBdst : (dst == 0) = true := beq_iff_eq.2 h_dst
  clear h_dst
  obtain rfl : only = true := by simpa using h_only
  clear h_only
  go_enter Tryd.func31, Tryd.ntmps31
  go_wp2_with (first | (go_at_call 54; refine (cost_val _ _ _ (by assumption)).mono ?_; rintro e w2 ⟨rfl, rfl⟩) | (go_at_call 55; refine (rgrp_val _ _ _ (by assumption) hkg).mono ?_; rintro e w2 ⟨rfl, rfl⟩) | go_in)
  go_ret
  exact ⟨rfl, by repeat' (first | exact Below.refl _ _ | (refine below_alloc ?_ _))⟩
set_option maxHeartbeats 2000000 in
set_option maxRecDepth 100000 in
theorem rvalid5_none (src dst ksrc kgrp rank cost : Int) (only : Bool) (A : Option Addr) (n c : Nat) (w : World) (hn4 : n ≤ 4) (hkg : isAd kgrp) (h_rank : isNum rank) (h_cost : isNum cost) (h_grp : isGrp kgrp) (h_rank0 : rank = 0) (h_cost0 : cost = 0) (h_dst : dst = 0) (h_only : only = false) (h_none : ¬ n = 0) :
    Calls Tryd.prog 31 #[.agg #[.int .i64 5, .int .u32 src, .int .u32 dst, .int .u32 ksrc, .int .u32 kgrp, .int .i64 rank, .int .i64 cost, .bool only, .slice A n c]] w fun e w' => e = .returned (.int .i64 103) ∧ Below w.heap.size w w' := by
  have hu2 := Tryd.underlying56
  have hu3 := Tryd.underlying53
  have hDrank : decide (isNum rank) = true := decide_eq_true h_rank
  clear h_rank
  have hDcost : decide (isNum cost) = true := decide_eq_true h_cost
  clear h_cost
  have hDgrp : decide (isGrp kgrp) = true := decide_eq_true h_grp
  clear h_grp
  have hBrank0 : (rank == 0) = true := beq_iff_eq.2 h_rank0
  clear h_rank0
  have hBcost0 : (cost == 0) = true := beq_iff_eq.2 h_cost0
  clear h_cost0
  have hBdst : (dst == 0) = true := beq_iff_eq.2 h_dst
  clear h_dst
  obtain rfl : only = false := by simpa using h_only
  clear h_only
  have hBn : ((n : Int) == 0) = false := beq_eq_false_iff_ne.2 (by omega)
  clear h_none
  go_enter Tryd.func31, Tryd.ntmps31
  go_wp2_with (first | (go_at_call 54; refine (cost_val _ _ _ (by assumption)).mono ?_; rintro e w2 ⟨rfl, rfl⟩) | (go_at_call 55; refine (rgrp_val _ _ _ (by assumption) hkg).mono ?_; rintro e w2 ⟨rfl, rfl⟩) | go_in)
  go_ret
  exact ⟨rfl, by repeat' (first | exact Below.refl _ _ | (refine below_alloc ?_ _))⟩
set_option maxHeartbeats 2000000 in
set_option maxRecDepth 100000 in
theorem rvalid5_ksrc (src dst ksrc kgrp rank cost : Int) (only : Bool) (A : Option Addr) (n c : Nat) (w : World) (hn4 : n ≤ 4) (hkg : isAd kgrp) (h_rank : isNum rank) (h_cost : isNum cost) (h_grp : isGrp kgrp) (h_rank0 : rank = 0) (h_cost0 : cost = 0) (h_dst : dst = 0) (h_only : only = false) (h_none : n = 0) (h_ksrc : ¬ ksrc = 0) :
    Calls Tryd.prog 31 #[.agg #[.int .i64 5, .int .u32 src, .int .u32 dst, .int .u32 ksrc, .int .u32 kgrp, .int .i64 rank, .int .i64 cost, .bool only, .slice A n c]] w fun e w' => e = .returned (.int .i64 103) ∧ Below w.heap.size w w' := by
  have hu2 := Tryd.underlying56
  have hu3 := Tryd.underlying53
  have hDrank : decide (isNum rank) = true := decide_eq_true h_rank
  clear h_rank
  have hDcost : decide (isNum cost) = true := decide_eq_true h_cost
  clear h_cost
  have hDgrp : decide (isGrp kgrp) = true := decide_eq_true h_grp
  clear h_grp
  have hBrank0 : (rank == 0) = true := beq_iff_eq.2 h_rank0
  clear h_rank0
  have hBcost0 : (cost == 0) = true := beq_iff_eq.2 h_cost0
  clear h_cost0
  have hBdst : (dst == 0) = true := beq_iff_eq.2 h_dst
  clear h_dst
  obtain rfl : only = false := by simpa using h_only
  clear h_only
  subst h_none
  have hBksrc : (ksrc == 0) = false := beq_eq_false_iff_ne.2 h_ksrc
  clear h_ksrc
  go_enter Tryd.func31, Tryd.ntmps31
  go_wp2_with (first | (go_at_call 54; refine (cost_val _ _ _ (by assumption)).mono ?_; rintro e w2 ⟨rfl, rfl⟩) | (go_at_call 55; refine (rgrp_val _ _ _ (by assumption) hkg).mono ?_; rintro e w2 ⟨rfl, rfl⟩) | go_in)
  go_ret
  exact ⟨rfl, by repeat' (first | exact Below.refl _ _ | (refine below_alloc ?_ _))⟩
set_option maxHeartbeats 2000000 in
set_option maxRecDepth 100000 in
theorem rvalid5_ok (src dst ksrc kgrp rank cost : Int) (only : Bool) (A : Option Addr) (n c : Nat) (w : World) (hn4 : n ≤ 4) (hkg : isAd kgrp) (h_rank : isNum rank) (h_cost : isNum cost) (h_grp : isGrp kgrp) (h_rank0 : rank = 0) (h_cost0 : cost = 0) (h_dst : dst = 0) (h_only : only = false) (h_none : n = 0) (h_ksrc : ksrc = 0) :
    Calls Tryd.prog 31 #[.agg #[.int .i64 5, .int .u32 src, .int .u32 dst, .int .u32 ksrc, .int .u32 kgrp, .int .i64 rank, .int .i64 cost, .bool only, .slice A n c]] w fun e w' => e = .returned (.int .i64 0) ∧ Below w.heap.size w w' := by
  have hu2 := Tryd.underlying56
  have hu3 := Tryd.underlying53
  have hDrank : decide (isNum rank) = true := decide_eq_true h_rank
  clear h_rank
  have hDcost : decide (isNum cost) = true := decide_eq_true h_cost
  clear h_cost
  have hDgrp : decide (isGrp kgrp) = true := decide_eq_true h_grp
  clear h_grp
  have hBrank0 : (rank == 0) = true := beq_iff_eq.2 h_rank0
  clear h_rank0
  have hBcost0 : (cost == 0) = true := beq_iff_eq.2 h_cost0
  clear h_cost0
  have hBdst : (dst == 0) = true := beq_iff_eq.2 h_dst
  clear h_dst
  obtain rfl : only = false := by simpa using h_only
  clear h_only
  subst h_none
  have hBksrc : (ksrc == 0) = true := beq_iff_eq.2 h_ksrc
  clear h_ksrc
  go_enter Tryd.func31, Tryd.ntmps31
  go_wp2_with (first | (go_at_call 54; refine (cost_val _ _ _ (by assumption)).mono ?_; rintro e w2 ⟨rfl, rfl⟩) | (go_at_call 55; refine (rgrp_val _ _ _ (by assumption) hkg).mono ?_; rintro e w2 ⟨rfl, rfl⟩) | go_in)
  go_ret
  exact ⟨rfl, by repeat' (first | exact Below.refl _ _ | (refine below_alloc ?_ _))⟩
end Go.Proofs.YtbgbplbkombfjaaDoor
namespace Go.Proofs.YtbgbplbkombfjaaDoor
open Go.RowKit Go.Proofs.YtbgbplbkombfjaaDoorW.PrintWords SumPlain
set_option linter.unusedVariables false
set_option linter.unusedSimpArgs false
attribute [local go_sem] setCell_drewN alloc_drewN
set_option maxHeartbeats 1000000 in
set_option maxRecDepth 100000 in
theorem rvalid_kind (K : Int) (src dst ksrc kgrp rank cost : Int) (only : Bool) (A : Option Addr) (n c : Nat) (w : World) (hx : ¬ (1 ≤ K ∧ K ≤ 5)) :
    Calls Tryd.prog 31 #[.agg #[.int .i64 K, .int .u32 src, .int .u32 dst, .int .u32 ksrc, .int .u32 kgrp, .int .i64 rank, .int .i64 cost, .bool only, .slice A n c]] w fun e w' => e = .returned (.int .i64 113) ∧ Below w.heap.size w w' := by
  have hu2 := Tryd.underlying56
  by_cases hy : K < 1
  · skip
    have hyd : decide (K < 1) = true := decide_eq_true hy
    clear hx
    go_enter Tryd.func31, Tryd.ntmps31
    go_wp2
    go_ret
    exact ⟨rfl, by repeat' (first | exact Below.refl _ _ | (refine below_alloc ?_ _))⟩
  · skip
    have hyd : decide (K < 1) = false := decide_eq_false hy
    have hyd2 : decide (5 < K) = true := decide_eq_true (by omega)
    clear hx hy
    go_enter Tryd.func31, Tryd.ntmps31
    go_wp2
    go_ret
    exact ⟨rfl, by repeat' (first | exact Below.refl _ _ | (refine below_alloc ?_ _))⟩
set_option maxHeartbeats 1000000 in
set_option maxRecDepth 100000 in
theorem rvalid_many (K : Int) (src dst ksrc kgrp rank cost : Int) (only : Bool) (A : Option Addr) (n c : Nat) (w : World) (h1 : 1 ≤ K) (h5 : K ≤ 5) (hn : 4 < n) (hm : n ≤ 9223372036854775807) :
    Calls Tryd.prog 31 #[.agg #[.int .i64 K, .int .u32 src, .int .u32 dst, .int .u32 ksrc, .int .u32 kgrp, .int .i64 rank, .int .i64 cost, .bool only, .slice A n c]] w fun e w' => e = .returned (.int .i64 104) ∧ Below w.heap.size w w' := by
  have hu2 := Tryd.underlying56
  have hyd : decide (K < 1) = false := decide_eq_false (by omega)
  have hyd2 : decide (5 < K) = false := decide_eq_false (by omega)
  have hd : decide (4 < (n : Int)) = true := decide_eq_true (by omega)
  go_enter Tryd.func31, Tryd.ntmps31
  go_wp2
  go_ret
  exact ⟨rfl, by repeat' (first | exact Below.refl _ _ | (refine below_alloc ?_ _))⟩
theorem rvalid_at1 (src dst ksrc kgrp rank cost : Int) (only : Bool) (l : List Int) (A : Option Addr) (n c : Nat) (w : World) (hn4 : n ≤ 4) (hl : l.length = n) (hg : isAd kgrp) :
    Calls Tryd.prog 31 #[.agg #[.int .i64 1, .int .u32 src, .int .u32 dst, .int .u32 ksrc, .int .u32 kgrp, .int .i64 rank, .int .i64 cost, .bool only, .slice A n c]] w fun e w' => e = .returned (.int .i64 (if ¬ (⟨1, src, dst, ksrc, kgrp, rank, cost, only, l⟩ : Msg).ok then 103 else 0)) ∧ Below w.heap.size w w' := by
  by_cases h_rank : isNum rank
  · skip
    by_cases h_cost : isNum cost
    · skip
      by_cases h_cost0 : cost = 0
      · skip
        by_cases h_dst : dst = 0
        · skip
          by_cases h_only : only = false
          · skip
            by_cases h_none : n = 0
            · skip
              by_cases h_grp0 : kgrp = 0
              · skip
                by_cases h_ksrc : ksrc = 0
                · skip
                  have ho : (⟨1, src, dst, ksrc, kgrp, rank, cost, only, l⟩ : Msg).ok := ⟨h_rank, h_cost, fun _ => h_grp0, fun e => absurd rfl e, fun _ => h_dst, fun _ => h_ksrc, fun e => absurd rfl e, fun _ => h_cost0, fun _ => ⟨h_only, List.eq_nil_of_length_eq_zero (show l.length = 0 by omega)⟩⟩
                  rw [if_neg (fun hno => hno ho)]
                  exact rvalid1_ok src dst ksrc kgrp rank cost only A n c w hn4 hg h_rank h_cost h_cost0 h_dst h_only h_none h_grp0 h_ksrc
                · rw [if_pos (fun ho => h_ksrc (ho.2.2.2.2.2.1 ⟨by simp, by simp⟩))]
                  exact rvalid1_ksrc src dst ksrc kgrp rank cost only A n c w hn4 hg h_rank h_cost h_cost0 h_dst h_only h_none h_grp0 h_ksrc
              · rw [if_pos (fun ho => h_grp0 (ho.2.2.1 rfl))]
                exact rvalid1_grp0 src dst ksrc kgrp rank cost only A n c w hn4 hg h_rank h_cost h_cost0 h_dst h_only h_none h_grp0
            · rw [if_pos (fun ho => h_none (by have e : l = [] := (ho.2.2.2.2.2.2.2.2 (by simp)).2; rw [← hl, e]; rfl))]
              exact rvalid1_none src dst ksrc kgrp rank cost only A n c w hn4 hg h_rank h_cost h_cost0 h_dst h_only h_none
          · rw [if_pos (fun ho => h_only (ho.2.2.2.2.2.2.2.2 (by simp)).1)]
            exact rvalid1_only src dst ksrc kgrp rank cost only A n c w hn4 hg h_rank h_cost h_cost0 h_dst h_only
        · rw [if_pos (fun ho => h_dst (ho.2.2.2.2.1 (by simp)))]
          exact rvalid1_dst src dst ksrc kgrp rank cost only A n c w hn4 hg h_rank h_cost h_cost0 h_dst
      · rw [if_pos (fun ho => h_cost0 (ho.2.2.2.2.2.2.2.1 (by simp)))]
        exact rvalid1_cost0 src dst ksrc kgrp rank cost only A n c w hn4 hg h_rank h_cost h_cost0
    · rw [if_pos (fun ho => h_cost ho.2.1)]
      exact rvalid1_cost src dst ksrc kgrp rank cost only A n c w hn4 hg h_rank h_cost
  · rw [if_pos (fun ho => h_rank ho.1)]
    exact rvalid1_rank src dst ksrc kgrp rank cost only A n c w hn4 hg  h_rank
theorem rvalid_at2 (src dst ksrc kgrp rank cost : Int) (only : Bool) (l : List Int) (A : Option Addr) (n c : Nat) (w : World) (hn4 : n ≤ 4) (hl : l.length = n) (hg : isAd kgrp) :
    Calls Tryd.prog 31 #[.agg #[.int .i64 2, .int .u32 src, .int .u32 dst, .int .u32 ksrc, .int .u32 kgrp, .int .i64 rank, .int .i64 cost, .bool only, .slice A n c]] w fun e w' => e = .returned (.int .i64 (if ¬ (⟨2, src, dst, ksrc, kgrp, rank, cost, only, l⟩ : Msg).ok then 103 else 0)) ∧ Below w.heap.size w w' := by
  by_cases h_rank : isNum rank
  · skip
    by_cases h_cost : isNum cost
    · skip
      by_cases h_grp : isGrp kgrp
      · skip
        by_cases h_rank0 : rank = 0
        · skip
          by_cases h_cost0 : cost = 0
          · skip
            by_cases h_only : only = false
            · skip
              by_cases h_none : n = 0
              · skip
                have ho : (⟨2, src, dst, ksrc, kgrp, rank, cost, only, l⟩ : Msg).ok := ⟨h_rank, h_cost, fun e => absurd e (by simp), fun _ => h_grp, fun e => absurd rfl e, fun e => absurd rfl (e.1), fun _ => h_rank0, fun _ => h_cost0, fun _ => ⟨h_only, List.eq_nil_of_length_eq_zero (show l.length = 0 by omega)⟩⟩
                rw [if_neg (fun hno => hno ho)]
                exact rvalid2_ok src dst ksrc kgrp rank cost only A n c w hn4 hg h_rank h_cost h_grp h_rank0 h_cost0 h_only h_none
              · rw [if_pos (fun ho => h_none (by have e : l = [] := (ho.2.2.2.2.2.2.2.2 (by simp)).2; rw [← hl, e]; rfl))]
                exact rvalid2_none src dst ksrc kgrp rank cost only A n c w hn4 hg h_rank h_cost h_grp h_rank0 h_cost0 h_only h_none
            · rw [if_pos (fun ho => h_only (ho.2.2.2.2.2.2.2.2 (by simp)).1)]
              exact rvalid2_only src dst ksrc kgrp rank cost only A n c w hn4 hg h_rank h_cost h_grp h_rank0 h_cost0 h_only
          · rw [if_pos (fun ho => h_cost0 (ho.2.2.2.2.2.2.2.1 (by simp)))]
            exact rvalid2_cost0 src dst ksrc kgrp rank cost only A n c w hn4 hg h_rank h_cost h_grp h_rank0 h_cost0
        · rw [if_pos (fun ho => h_rank0 (ho.2.2.2.2.2.2.1 (by simp)))]
          exact rvalid2_rank0 src dst ksrc kgrp rank cost only A n c w hn4 hg h_rank h_cost h_grp h_rank0
      · rw [if_pos (fun ho => h_grp (ho.2.2.2.1 (by simp)))]
        exact rvalid2_grp src dst ksrc kgrp rank cost only A n c w hn4 hg h_rank h_cost h_grp
    · rw [if_pos (fun ho => h_cost ho.2.1)]
      exact rvalid2_cost src dst ksrc kgrp rank cost only A n c w hn4 hg h_rank h_cost
  · rw [if_pos (fun ho => h_rank ho.1)]
    exact rvalid2_rank src dst ksrc kgrp rank cost only A n c w hn4 hg  h_rank
theorem rvalid_at3 (src dst ksrc kgrp rank cost : Int) (only : Bool) (l : List Int) (A : Option Addr) (n c : Nat) (w : World) (hn4 : n ≤ 4) (hl : l.length = n) (hg : isAd kgrp) :
    Calls Tryd.prog 31 #[.agg #[.int .i64 3, .int .u32 src, .int .u32 dst, .int .u32 ksrc, .int .u32 kgrp, .int .i64 rank, .int .i64 cost, .bool only, .slice A n c]] w fun e w' => e = .returned (.int .i64 (if ¬ (⟨3, src, dst, ksrc, kgrp, rank, cost, only, l⟩ : Msg).ok then 103 else 0)) ∧ Below w.heap.size w w' := by
  by_cases h_rank : isNum rank
  · skip
    by_cases h_cost : isNum cost
    · skip
      by_cases h_grp : isGrp kgrp
      · skip
        by_cases h_rank0 : rank = 0
        · skip
          by_cases h_dst : dst = 0
          · skip
            by_cases h_only : only = false
            · skip
              by_cases h_none : n = 0
              · skip
                have ho : (⟨3, src, dst, ksrc, kgrp, rank, cost, only, l⟩ : Msg).ok := ⟨h_rank, h_cost, fun e => absurd e (by simp), fun _ => h_grp, fun _ => h_dst, fun e => absurd rfl (e.2), fun _ => h_rank0, fun e => absurd rfl e, fun _ => ⟨h_only, List.eq_nil_of_length_eq_zero (show l.length = 0 by omega)⟩⟩
                rw [if_neg (fun hno => hno ho)]
                exact rvalid3_ok src dst ksrc kgrp rank cost only A n c w hn4 hg h_rank h_cost h_grp h_rank0 h_dst h_only h_none
              · rw [if_pos (fun ho => h_none (by have e : l = [] := (ho.2.2.2.2.2.2.2.2 (by simp)).2; rw [← hl, e]; rfl))]
                exact rvalid3_none src dst ksrc kgrp rank cost only A n c w hn4 hg h_rank h_cost h_grp h_rank0 h_dst h_only h_none
            · rw [if_pos (fun ho => h_only (ho.2.2.2.2.2.2.2.2 (by simp)).1)]
              exact rvalid3_only src dst ksrc kgrp rank cost only A n c w hn4 hg h_rank h_cost h_grp h_rank0 h_dst h_only
          · rw [if_pos (fun ho => h_dst (ho.2.2.2.2.1 (by simp)))]
            exact rvalid3_dst src dst ksrc kgrp rank cost only A n c w hn4 hg h_rank h_cost h_grp h_rank0 h_dst
        · rw [if_pos (fun ho => h_rank0 (ho.2.2.2.2.2.2.1 (by simp)))]
          exact rvalid3_rank0 src dst ksrc kgrp rank cost only A n c w hn4 hg h_rank h_cost h_grp h_rank0
      · rw [if_pos (fun ho => h_grp (ho.2.2.2.1 (by simp)))]
        exact rvalid3_grp src dst ksrc kgrp rank cost only A n c w hn4 hg h_rank h_cost h_grp
    · rw [if_pos (fun ho => h_cost ho.2.1)]
      exact rvalid3_cost src dst ksrc kgrp rank cost only A n c w hn4 hg h_rank h_cost
  · rw [if_pos (fun ho => h_rank ho.1)]
    exact rvalid3_rank src dst ksrc kgrp rank cost only A n c w hn4 hg  h_rank
theorem rvalid_at4 (src dst ksrc kgrp rank cost : Int) (only : Bool) (l : List Int) (A : Option Addr) (n c : Nat) (w : World) (hn4 : n ≤ 4) (hl : l.length = n) (hg : isAd kgrp) :
    Calls Tryd.prog 31 #[.agg #[.int .i64 4, .int .u32 src, .int .u32 dst, .int .u32 ksrc, .int .u32 kgrp, .int .i64 rank, .int .i64 cost, .bool only, .slice A n c]] w fun e w' => e = .returned (.int .i64 (if ¬ (⟨4, src, dst, ksrc, kgrp, rank, cost, only, l⟩ : Msg).ok then 103 else 0)) ∧ Below w.heap.size w w' := by
  by_cases h_rank : isNum rank
  · skip
    by_cases h_cost : isNum cost
    · skip
      by_cases h_grp : isGrp kgrp
      · skip
        by_cases h_rank0 : rank = 0
        · skip
          by_cases h_cost0 : cost = 0
          · skip
            by_cases h_dst : dst = 0
            · skip
              by_cases h_ksrc : ksrc = 0
              · skip
                have ho : (⟨4, src, dst, ksrc, kgrp, rank, cost, only, l⟩ : Msg).ok := ⟨h_rank, h_cost, fun e => absurd e (by simp), fun _ => h_grp, fun _ => h_dst, fun _ => h_ksrc, fun _ => h_rank0, fun _ => h_cost0, fun e => absurd rfl e⟩
                rw [if_neg (fun hno => hno ho)]
                exact rvalid4_ok src dst ksrc kgrp rank cost only A n c w hn4 hg h_rank h_cost h_grp h_rank0 h_cost0 h_dst h_ksrc
              · rw [if_pos (fun ho => h_ksrc (ho.2.2.2.2.2.1 ⟨by simp, by simp⟩))]
                exact rvalid4_ksrc src dst ksrc kgrp rank cost only A n c w hn4 hg h_rank h_cost h_grp h_rank0 h_cost0 h_dst h_ksrc
            · rw [if_pos (fun ho => h_dst (ho.2.2.2.2.1 (by simp)))]
              exact rvalid4_dst src dst ksrc kgrp rank cost only A n c w hn4 hg h_rank h_cost h_grp h_rank0 h_cost0 h_dst
          · rw [if_pos (fun ho => h_cost0 (ho.2.2.2.2.2.2.2.1 (by simp)))]
            exact rvalid4_cost0 src dst ksrc kgrp rank cost only A n c w hn4 hg h_rank h_cost h_grp h_rank0 h_cost0
        · rw [if_pos (fun ho => h_rank0 (ho.2.2.2.2.2.2.1 (by simp)))]
          exact rvalid4_rank0 src dst ksrc kgrp rank cost only A n c w hn4 hg h_rank h_cost h_grp h_rank0
      · rw [if_pos (fun ho => h_grp (ho.2.2.2.1 (by simp)))]
        exact rvalid4_grp src dst ksrc kgrp rank cost only A n c w hn4 hg h_rank h_cost h_grp
    · rw [if_pos (fun ho => h_cost ho.2.1)]
      exact rvalid4_cost src dst ksrc kgrp rank cost only A n c w hn4 hg h_rank h_cost
  · rw [if_pos (fun ho => h_rank ho.1)]
    exact rvalid4_rank src dst ksrc kgrp rank cost only A n c w hn4 hg  h_rank
theorem rvalid_at5 (src dst ksrc kgrp rank cost : Int) (only : Bool) (l : List Int) (A : Option Addr) (n c : Nat) (w : World) (hn4 : n ≤ 4) (hl : l.length = n) (hg : isAd kgrp) :
    Calls Tryd.prog 31 #[.agg #[.int .i64 5, .int .u32 src, .int .u32 dst, .int .u32 ksrc, .int .u32 kgrp, .int .i64 rank, .int .i64 cost, .bool only, .slice A n c]] w fun e w' => e = .returned (.int .i64 (if ¬ (⟨5, src, dst, ksrc, kgrp, rank, cost, only, l⟩ : Msg).ok then 103 else 0)) ∧ Below w.heap.size w w' := by
  by_cases h_rank : isNum rank
  · skip
    by_cases h_cost : isNum cost
    · skip
      by_cases h_grp : isGrp kgrp
      · skip
        by_cases h_rank0 : rank = 0
        · skip
          by_cases h_cost0 : cost = 0
          · skip
            by_cases h_dst : dst = 0
            · skip
              by_cases h_only : only = false
              · skip
                by_cases h_none : n = 0
                · skip
                  by_cases h_ksrc : ksrc = 0
                  · skip
                    have ho : (⟨5, src, dst, ksrc, kgrp, rank, cost, only, l⟩ : Msg).ok := ⟨h_rank, h_cost, fun e => absurd e (by simp), fun _ => h_grp, fun _ => h_dst, fun _ => h_ksrc, fun _ => h_rank0, fun _ => h_cost0, fun _ => ⟨h_only, List.eq_nil_of_length_eq_zero (show l.length = 0 by omega)⟩⟩
                    rw [if_neg (fun hno => hno ho)]
                    exact rvalid5_ok src dst ksrc kgrp rank cost only A n c w hn4 hg h_rank h_cost h_grp h_rank0 h_cost0 h_dst h_only h_none h_ksrc
                  · rw [if_pos (fun ho => h_ksrc (ho.2.2.2.2.2.1 ⟨by simp, by simp⟩))]
                    exact rvalid5_ksrc src dst ksrc kgrp rank cost only A n c w hn4 hg h_rank h_cost h_grp h_rank0 h_cost0 h_dst h_only h_none h_ksrc
                · rw [if_pos (fun ho => h_none (by have e : l = [] := (ho.2.2.2.2.2.2.2.2 (by simp)).2; rw [← hl, e]; rfl))]
                  exact rvalid5_none src dst ksrc kgrp rank cost only A n c w hn4 hg h_rank h_cost h_grp h_rank0 h_cost0 h_dst h_only h_none
              · rw [if_pos (fun ho => h_only (ho.2.2.2.2.2.2.2.2 (by simp)).1)]
                exact rvalid5_only src dst ksrc kgrp rank cost only A n c w hn4 hg h_rank h_cost h_grp h_rank0 h_cost0 h_dst h_only
            · rw [if_pos (fun ho => h_dst (ho.2.2.2.2.1 (by simp)))]
              exact rvalid5_dst src dst ksrc kgrp rank cost only A n c w hn4 hg h_rank h_cost h_grp h_rank0 h_cost0 h_dst
          · rw [if_pos (fun ho => h_cost0 (ho.2.2.2.2.2.2.2.1 (by simp)))]
            exact rvalid5_cost0 src dst ksrc kgrp rank cost only A n c w hn4 hg h_rank h_cost h_grp h_rank0 h_cost0
        · rw [if_pos (fun ho => h_rank0 (ho.2.2.2.2.2.2.1 (by simp)))]
          exact rvalid5_rank0 src dst ksrc kgrp rank cost only A n c w hn4 hg h_rank h_cost h_grp h_rank0
      · rw [if_pos (fun ho => h_grp (ho.2.2.2.1 (by simp)))]
        exact rvalid5_grp src dst ksrc kgrp rank cost only A n c w hn4 hg h_rank h_cost h_grp
    · rw [if_pos (fun ho => h_cost ho.2.1)]
      exact rvalid5_cost src dst ksrc kgrp rank cost only A n c w hn4 hg h_rank h_cost
  · rw [if_pos (fun ho => h_rank ho.1)]
    exact rvalid5_rank src dst ksrc kgrp rank cost only A n c w hn4 hg  h_rank
theorem code_many : codeOf (some 5) = 104 := by decide
theorem code_kind : codeOf (some 4) = 113 := by decide
theorem rvalid_any (m : Msg) (A : Option Addr) (n c : Nat) (w : World) (hw : m.wf) (hC : Kd.C (Kd.int .u32) w A n m.l) :
    Calls Tryd.prog 31 #[.agg (m.cells (.slice A n c))] w fun e w' => e = .returned (.int .i64 (codeOf (validL m))) ∧ Below w.heap.size w w' := by
  obtain ⟨K, src, dst, ksrc, kgrp, rank, cost, only, l⟩ := m
  have hl := hC.1
  have hm := Kd.C_max hC
  have hg := hw.2.2.2.1
  simp only at hl hm hg
  simp only [Msg.cells, validL]
  by_cases hK : 1 ≤ K ∧ K ≤ 5
  · rw [if_neg (fun h => h hK)]
    by_cases h4 : 4 < l.length
    · rw [if_pos h4, code_many]
      exact rvalid_many K src dst ksrc kgrp rank cost only A n c w hK.1 hK.2 (by omega) (by omega)
    · rw [if_neg h4]
      have hX : ∀ (p : Prop) [Decidable p], codeOf (if p then some 0 else none) = if p then 103 else 0 := fun p _ => by
        split
        · exact code_range
        · rfl
      rw [hX]
      obtain rfl | rfl | rfl | rfl | rfl : K = 1 ∨ K = 2 ∨ K = 3 ∨ K = 4 ∨ K = 5 := by omega
      · exact rvalid_at1 src dst ksrc kgrp rank cost only l A n c w (by omega) hl hg
      · exact rvalid_at2 src dst ksrc kgrp rank cost only l A n c w (by omega) hl hg
      · exact rvalid_at3 src dst ksrc kgrp rank cost only l A n c w (by omega) hl hg
      · exact rvalid_at4 src dst ksrc kgrp rank cost only l A n c w (by omega) hl hg
      · exact rvalid_at5 src dst ksrc kgrp rank cost only l A n c w (by omega) hl hg
  · rw [if_pos hK, code_kind]
    exact rvalid_kind K src dst ksrc kgrp rank cost only A n c w hK
end Go.Proofs.YtbgbplbkombfjaaDoor
