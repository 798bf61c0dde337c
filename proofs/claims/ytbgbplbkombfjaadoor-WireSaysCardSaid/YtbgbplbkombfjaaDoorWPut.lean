/- wire.put; a message's bytes. -/
import Derived.Test.YtbgbplbkombfjaaDoorWValid
import Derived.Deep.DeepCutAuto
namespace Go.Proofs.YtbgbplbkombfjaaDoor
open Go.RowKit Go.Proofs.YtbgbplbkombfjaaDoorW.PrintWords SumPlain
set_option linter.unusedVariables false
set_option linter.unusedSimpArgs false
attribute [local go_sem] setCell_drewN alloc_drewN
def adsB (l : List Int) : List Int := l.flatMap adB
/-- A message's bytes ahead of the sum. -/
def rawM (m : Msg) : List Int :=
  [32 + m.kind, 0, 0, 0] ++ adB m.src ++ (if m.kind = 2 then adB m.dst else []) ++ (if m.kind = 2 ∨ m.kind = 3 then adB m.ksrc else []) ++ (if m.kind = 1 then [] else adB m.kgrp) ++ (if m.kind = 1 ∨ m.kind = 3 then nuB (m.rank + m.cost) else []) ++ (if m.kind = 4 then [if m.only then 1 else 0, (m.l.length : Int)] ++ adsB m.l else [])
def msgL (m : Msg) : List Int := putL (rawM m) 2
theorem rawM1 (src dst ksrc kgrp rank cost : Int) (only : Bool) (l : List Int) : rawM ⟨1, src, dst, ksrc, kgrp, rank, cost, only, l⟩ = [33, 0, 0, 0] ++ adB src ++ nuB (rank + cost) := by simp [rawM]
theorem rawM2 (src dst ksrc kgrp rank cost : Int) (only : Bool) (l : List Int) : rawM ⟨2, src, dst, ksrc, kgrp, rank, cost, only, l⟩ = [34, 0, 0, 0] ++ adB src ++ adB dst ++ adB ksrc ++ adB kgrp := by simp [rawM]
theorem rawM3 (src dst ksrc kgrp rank cost : Int) (only : Bool) (l : List Int) : rawM ⟨3, src, dst, ksrc, kgrp, rank, cost, only, l⟩ = [35, 0, 0, 0] ++ adB src ++ adB ksrc ++ adB kgrp ++ nuB (rank + cost) := by simp [rawM]
theorem rawM4 (src dst ksrc kgrp rank cost : Int) (only : Bool) (l : List Int) : rawM ⟨4, src, dst, ksrc, kgrp, rank, cost, only, l⟩ = [36, 0, 0, 0] ++ adB src ++ adB kgrp ++ [if only then 1 else 0, (l.length : Int)] ++ adsB l := by simp [rawM]
theorem rawM5 (src dst ksrc kgrp rank cost : Int) (only : Bool) (l : List Int) : rawM ⟨5, src, dst, ksrc, kgrp, rank, cost, only, l⟩ = [37, 0, 0, 0] ++ adB src ++ adB kgrp := by simp [rawM]
set_option maxHeartbeats 1000000 in
set_option maxRecDepth 100000 in
theorem wput_any (w0 : World) (base : Nat) (v : Value) (xs : List Int) (a : Int) (w : World) (HO : (Kd.int .u8).R 5 w base (fun _ => True) v xs) (HB : Below base w0 w) (hbase : base ≤ w.heap.size) (hl : xs.length ≤ 900000) (h0 : isAd a) :
    Calls Tryd.prog 49 #[v, .int .u32 a] w fun e w' => ∃ v', e = .returned v' ∧ (Kd.int .u8).R 5 w' base (fun _ => True) v' (xs ++ adB a) ∧ Below base w0 w' ∧ base ≤ w'.heap.size := by
  have hu := Tryd.underlying73
  obtain ⟨W, hW⟩ : ∃ W, W = ((w.alloc (.cells (adC a) 73)).alloc (.cells (adC a) 73)).alloc (.cells (adC a) 73) := ⟨_, rfl⟩
  have hb : Below w.heap.size w W := by rw [hW]; exact below_alloc (below_alloc (below_alloc (Below.refl _ _) _) _) _
  have hg : W.heap[w.heap.size + 1 + 1]? = some (.cells (adC a) 73 (0, 0)) := by rw [hW]; exact new_at _ _ _ (by simp)
  have hC := blk_C .u8 (adB a) (by simp [adB]) (hg.trans rfl)
  have HH := Aside0.mk (And.intro (Kd.R_below HO hb) (And.intro hC (And.intro (below_then HB hbase hb) (Nat.le_trans hbase hb.size))))
  have HX := Aside0.mk hW
  have HO' := Aside0.mk HO
  clear hW hb hg hC HO
  go_enter Tryd.func49, Tryd.ntmps49
  go_wp2_with fail
  refine (addrBytes_any a w h0.1 h0.2).mono ?_
  rintro e w1 ⟨rfl, rfl⟩
  go_upto_region 2 with fail
  have hW := HX.out
  simp only [adV] at hW ⊢
  rw [← hW]
  clear hW HX
  go_wp2_with (at_builtin; refine Kd.R_append_row (w0 := w0) (Value.int .u8) 0 base rfl (.tmp 8) (.tmp 9) 26 5 (.int .u8 0) 1 rfl Tryd.underlying26 Tryd.infoB rfl (by decide) v xs (adB a) (some ⟨w.heap.size + 1 + 1, 0, none⟩) 4 4 (fun _ => True) (by rfl) (by rfl) (fun _ _ => trivial) HH.out.1 HH.out.2.1 HH.out.2.2.1 HH.out.2.2.2 (by omega) ?_)
  intro v1 w3 hown1 hbel1 hgr _
  go_wp2
  go_ret
  exact ⟨_, rfl, hown1, hbel1, Nat.le_trans HH.out.2.2.2 hgr.size⟩
end Go.Proofs.YtbgbplbkombfjaaDoor
