/- Plain facts of messages' bytes; the chapter's example. -/
import Derived.Test.YtbgbplbkombfjaaDoorWBytes
import Derived.Test.YtbgbplbkombfjaaDoorFlip
namespace Go.Proofs.YtbgbplbkombfjaaDoor
open Go.RowKit Go.Proofs.YtbgbplbkombfjaaDoorW.PrintWords SumPlain
set_option linter.unusedVariables false
set_option linter.unusedSimpArgs false
attribute [local go_sem] setCell_drewN alloc_drewN
def sizeM (m : Msg) : Nat := if m.kind = 1 then 10 else if m.kind = 2 then 20 else if m.kind = 3 then 18 else if m.kind = 4 then 14 + 4 * m.l.length else 12
theorem msgL_length (m : Msg) (h : 1 ≤ m.kind ∧ m.kind ≤ 5) : (msgL m).length = sizeM m := by
  obtain ⟨K, src, dst, ksrc, kgrp, rank, cost, only, l⟩ := m
  simp only at h
  rw [msgL, putL_length]
  obtain rfl | rfl | rfl | rfl | rfl : K = 1 ∨ K = 2 ∨ K = 3 ∨ K = 4 ∨ K = 5 := by omega
  · rw [rawM1]; simp [sizeM, adB, nuB]
  · rw [rawM2]; simp [sizeM, adB, nuB]
  · rw [rawM3]; simp [sizeM, adB, nuB]
  · rw [rawM4]; simp [sizeM, adB, nuB, adsB_len]; omega
  · rw [rawM5]; simp [sizeM, adB, nuB]
theorem msgL_kind (m : Msg) : (msgL m).getD 0 0 = 32 + m.kind := by
  rw [msgL, show (2 : Int) = ((2 : Nat) : Int) by rfl, putL_getD _ 2 0 (by omega) (by omega)]
  rfl
theorem validL_some (m : Msg) (h1 : 1 ≤ m.kind ∧ m.kind ≤ 5) (h2 : m.l.length ≤ 4) (h3 : ¬ m.ok) : validL m = some 0 := by
  unfold validL
  rw [if_neg (fun h => h h1), if_neg (by omega), if_pos h3]
theorem validL_ok (m : Msg) (h1 : 1 ≤ m.kind ∧ m.kind ≤ 5) (h2 : m.l.length ≤ 4) (h3 : m.ok) : validL m = none := by
  unfold validL
  rw [if_neg (fun h => h h1), if_neg (by omega), if_neg (fun h => h h3)]
theorem C_none32 (w : World) : Kd.C (Kd.int .u32) w none 0 [] := ⟨rfl, by simp, fun h => absurd h (by simp)⟩
set_option maxHeartbeats 1000000 in
set_option maxRecDepth 100000 in
theorem first4_any (E : Nat → Addr) (w : World) (hE : Errs wireErrs E w) : Calls Tryd.prog 26 #[] w fun e w' => e = .returned (.bool true) ∧ Below w.heap.size w w' := by
  have hu2 := Tryd.underlying56
  have hu3 := Tryd.underlying53
  have hv : validL ⟨1, 0, 0, 0, 0, 0, 0, false, []⟩ = none := validL_ok _ (by simp) (by simp) (by simp [Msg.ok, isNum])
  have hwf : (⟨1, 0, 0, 0, 0, 0, 0, false, []⟩ : Msg).wf := by simp [Msg.wf, isAd]
  have hl := msgL_length ⟨1, 0, 0, 0, 0, 0, 0, false, []⟩ (by simp)
  have H := Aside0.mk (And.intro hE (And.intro hv (And.intro hwf hl)))
  clear hE hv hwf hl
  go_enter Tryd.func26, Tryd.ntmps26
  go_wp2_with fail
  refine (wbytes_any E ⟨1, 0, 0, 0, 0, 0, 0, false, []⟩ none 0 0 w H.out.1 H.out.2.2.1 (C_none32 w)).mono ?_
  rintro e w1 ⟨v, rfl, hR, hb⟩
  rw [H.out.2.1]
  unfold wbL at hR
  rw [if_pos H.out.2.1] at hR
  simp only [errV]
  obtain ⟨A1, c1, rfl, hle, hC⟩ := Kd.R_reads hR
  rw [H.out.2.2.2]
  simp only [sizeM, if_true]
  clear hR hC hle
  go_wp2
  go_ret
  exact ⟨rfl, hb⟩
end Go.Proofs.YtbgbplbkombfjaaDoor
