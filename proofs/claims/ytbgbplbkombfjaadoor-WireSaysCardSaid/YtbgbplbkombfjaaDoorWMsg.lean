/- wire.Valid. -/
import Derived.Test.YtbgbplbkombfjaaDoorSee
import Derived.Test.YtbgbplbkombfjaaDoorIpFirst
namespace Go.Proofs.YtbgbplbkombfjaaDoor
open Go.RowKit Go.Proofs.YtbgbplbkombfjaaDoorW.PrintWords SumPlain
set_option linter.unusedVariables false
set_option linter.unusedSimpArgs false
attribute [local go_sem] setCell_drewN alloc_drewN
structure Msg where
  kind : Int
  src : Int
  dst : Int
  ksrc : Int
  kgrp : Int
  rank : Int
  cost : Int
  only : Bool
  l : List Int
deriving DecidableEq
def Msg.cells (m : Msg) (v : Value) : Array Value := #[.int .i64 m.kind, .int .u32 m.src, .int .u32 m.dst, .int .u32 m.ksrc, .int .u32 m.kgrp, .int .i64 m.rank, .int .i64 m.cost, .bool m.only, v]
def isAd (a : Int) : Prop := 0 ≤ a ∧ a < 4294967296
def Msg.wf (m : Msg) : Prop := isAd m.src ∧ isAd m.dst ∧ isAd m.ksrc ∧ isAd m.kgrp ∧ ∀ a ∈ m.l, isAd a
def isGrp (a : Int) : Prop := 3758096384 ≤ a ∧ a ≤ 4026531839
def isNum (n : Int) : Prop := 0 ≤ n ∧ n ≤ 65535
instance (a : Int) : Decidable (isGrp a) := by unfold isGrp; infer_instance
instance (a : Int) : Decidable (isNum a) := by unfold isNum; infer_instance
def Msg.ok (m : Msg) : Prop :=
  isNum m.rank ∧ isNum m.cost ∧ (m.kind = 1 → m.kgrp = 0) ∧ (m.kind ≠ 1 → isGrp m.kgrp) ∧ (m.kind ≠ 2 → m.dst = 0) ∧ (m.kind ≠ 2 ∧ m.kind ≠ 3 → m.ksrc = 0) ∧ (m.kind ≠ 1 → m.rank = 0) ∧ (m.kind ≠ 3 → m.cost = 0) ∧ (m.kind ≠ 4 → m.only = false ∧ m.l = [])
instance (m : Msg) : Decidable m.ok := by unfold Msg.ok; infer_instance
def validL (m : Msg) : Option Nat :=
  if ¬ (1 ≤ m.kind ∧ m.kind ≤ 5) then some 4
  else if 4 < m.l.length then some 5
  else if ¬ m.ok then some 0
  else none
def wireErrs : List Nat := [0, 5, 4]
set_option maxHeartbeats 1000000 in
set_option maxRecDepth 100000 in
theorem grp_yes (a : Int) (w : World) (h0 : 3758096384 ≤ a) (h1 : a ≤ 4026531839) : Calls Tryd.prog 52 #[.int .u32 a] w fun e w' => e = .returned (.bool true) ∧ w' = ((w.alloc (.cells (adC a) 73)).alloc (.cells (adC a) 73)).alloc (.cells (adC a) 73) := by
  have hu := Tryd.underlying73
  have g0 : 224 ≤ a / 16777216 := by omega
  have g1 : a / 16777216 ≤ 239 := by omega
  go_enter Tryd.func52, Tryd.ntmps52
  go_wp2_with fail
  refine (addrBytes_any a w (by omega) (by omega)).mono ?_
  rintro e w1 ⟨rfl, rfl⟩
  go_wp2
  go_ret
  exact ⟨rfl, rfl⟩
set_option maxHeartbeats 1000000 in
set_option maxRecDepth 100000 in
theorem grp_no (a : Int) (w : World) (h0 : 0 ≤ a) (h1 : a < 4294967296) (h : ¬ (3758096384 ≤ a ∧ a ≤ 4026531839)) : Calls Tryd.prog 52 #[.int .u32 a] w fun e w' => e = .returned (.bool false) ∧ w' = ((w.alloc (.cells (adC a) 73)).alloc (.cells (adC a) 73)).alloc (.cells (adC a) 73) := by
  have hu := Tryd.underlying73
  by_cases g : a / 16777216 < 224
  · have gd : decide (224 ≤ a / 16777216) = false := decide_eq_false (by omega)
    clear h
    go_enter Tryd.func52, Tryd.ntmps52
    go_wp2_with fail
    refine (addrBytes_any a w (by omega) (by omega)).mono ?_
    rintro e w1 ⟨rfl, rfl⟩
    go_wp2
    go_ret
    exact ⟨rfl, rfl⟩
  · have g0 : 224 ≤ a / 16777216 := by omega
    have g1 : 239 < a / 16777216 := by omega
    have gd : decide (a / 16777216 ≤ 239) = false := decide_eq_false (by omega)
    clear h g
    go_enter Tryd.func52, Tryd.ntmps52
    go_wp2_with fail
    refine (addrBytes_any a w (by omega) (by omega)).mono ?_
    rintro e w1 ⟨rfl, rfl⟩
    go_wp2
    go_ret
    exact ⟨rfl, rfl⟩
end Go.Proofs.YtbgbplbkombfjaaDoor
