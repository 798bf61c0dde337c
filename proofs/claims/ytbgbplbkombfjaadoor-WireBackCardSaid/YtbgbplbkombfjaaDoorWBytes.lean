/- wire.Bytes at any message. -/
import Derived.Test.YtbgbplbkombfjaaDoorWBytes1
import Derived.Test.YtbgbplbkombfjaaDoorWBytes2
import Derived.Test.YtbgbplbkombfjaaDoorWBytes3
import Derived.Test.YtbgbplbkombfjaaDoorWBytes4
import Derived.Test.YtbgbplbkombfjaaDoorWBytes5
namespace Go.Proofs.YtbgbplbkombfjaaDoor
open Go.RowKit Go.Proofs.YtbgbplbkombfjaaDoorW.PrintWords SumPlain
set_option linter.unusedVariables false
set_option linter.unusedSimpArgs false
attribute [local go_sem] setCell_drewN alloc_drewN
set_option maxHeartbeats 1000000 in
set_option maxRecDepth 100000 in
theorem wbytes_bad (E : Nat → Addr) (K src dst ksrc kgrp rank cost : Int) (only : Bool) (l : List Int) (A : Option Addr) (n c : Nat) (w : World) (k : Nat) (hE : Errs wireErrs E w) (hw : (⟨K, src, dst, ksrc, kgrp, rank, cost, only, l⟩ : Msg).wf) (hC : Kd.C (Kd.int .u32) w A n l) (hv : validL ⟨K, src, dst, ksrc, kgrp, rank, cost, only, l⟩ = some k) :
    Calls Tryd.prog 27 #[.agg #[.int .i64 K, .int .u32 src, .int .u32 dst, .int .u32 ksrc, .int .u32 kgrp, .int .i64 rank, .int .i64 cost, .bool only, .slice A n c]] w fun e w' => e = .returned (.tuple #[.slice none 0 0, errV E (some k)]) ∧ Below w.heap.size w w' := by
  have hu2 := Tryd.underlying56
  have hu3 := Tryd.underlying53
  obtain ⟨W, hW⟩ : ∃ W, W = w.alloc (.cells #[.int .i64 K, .int .u32 src, .int .u32 dst, .int .u32 ksrc, .int .u32 kgrp, .int .i64 rank, .int .i64 cost, .bool only, .slice A n c] 56) := ⟨_, rfl⟩
  have hb0 : Below w.heap.size w W := by rw [hW]; exact below_alloc (Below.refl _ _) _
  have HX := Aside0.mk hW
  have HW := Aside0.mk (And.intro hw (And.intro hE (And.intro hC (And.intro hv hb0))))
  clear hb0 hW hw hE hC hv
  go_enter Tryd.func27, Tryd.ntmps27
  go_wp2_with fail
  have hW := HX.out
  rw [← hW]
  clear HX hW
  refine (valid_any E ⟨K, src, dst, ksrc, kgrp, rank, cost, only, l⟩ A n c W (HW.out.2.1.below HW.out.2.2.2.2) HW.out.1 (Kd.C_below HW.out.2.2.1 HW.out.2.2.2.2)).mono ?_
  rintro e w2 ⟨rfl, hb2⟩
  rw [HW.out.2.2.2.1]
  simp only [errV]
  have hB2 := reach_to HW.out.2.2.2.2 HW.out.2.2.2.2.size hb2
  go_wp2
  go_ret2
  exact ⟨rfl, hB2⟩
theorem validL_none (m : Msg) (h : validL m = none) : (1 ≤ m.kind ∧ m.kind ≤ 5) ∧ m.l.length ≤ 4 ∧ m.ok := by
  unfold validL at h
  split at h
  · cases h
  · rename_i h1
    split at h
    · cases h
    · rename_i h2
      split at h
      · cases h
      · rename_i h3
        exact ⟨Decidable.not_not.1 h1, by omega, Decidable.not_not.1 h3⟩
/-- What wire.Bytes comes to. -/
def wbL (m : Msg) : List Int := if validL m = none then msgL m else []
theorem wbytes_any (E : Nat → Addr) (m : Msg) (A : Option Addr) (n c : Nat) (w : World) (hE : Errs wireErrs E w) (hw : m.wf) (hC : Kd.C (Kd.int .u32) w A n m.l) :
    Calls Tryd.prog 27 #[.agg (m.cells (.slice A n c))] w fun e w' => ∃ v, e = .returned (.tuple #[v, errV E (validL m)]) ∧ (Kd.int .u8).R 5 w' w.heap.size (fun _ => True) v (wbL m) ∧ Below w.heap.size w w' := by
  obtain ⟨K, src, dst, ksrc, kgrp, rank, cost, only, l⟩ := m
  unfold wbL
  cases hv : validL ⟨K, src, dst, ksrc, kgrp, rank, cost, only, l⟩ with
  | some k =>
    rw [if_neg (by simp)]
    refine (wbytes_bad E K src dst ksrc kgrp rank cost only l A n c w k hE hw hC hv).mono ?_
    rintro e w' ⟨rfl, hb⟩
    exact ⟨_, rfl, Kd.R_nil _ _ _ _ _, hb⟩
  | none =>
    rw [if_pos rfl]
    obtain ⟨h1, h2, h3⟩ := validL_none _ hv
    simp only at h1 h2
    obtain rfl | rfl | rfl | rfl | rfl : K = 1 ∨ K = 2 ∨ K = 3 ∨ K = 4 ∨ K = 5 := by omega
    · exact wbytes1 E src dst ksrc kgrp rank cost only l A n c w hE hw hC hv h3 h2
    · exact wbytes2 E src dst ksrc kgrp rank cost only l A n c w hE hw hC hv h3 h2
    · exact wbytes3 E src dst ksrc kgrp rank cost only l A n c w hE hw hC hv h3 h2
    · exact wbytes4 E src dst ksrc kgrp rank cost only l A n c w hE hw hC hv h3 h2
    · exact wbytes5 E src dst ksrc kgrp rank cost only l A n c w hE hw hC hv h3 h2
end Go.Proofs.YtbgbplbkombfjaaDoor
