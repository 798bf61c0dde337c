/- A message that came in. -/
import Derived.Test.YtbgbplbkombfjaaDoorOpens
import Derived.Test.YtbgbplbkombfjaaDoorWMsg
import Derived.Test.YtbgbplbkombfjaaDoorRowHdr
namespace Go.Proofs.YtbgbplbkombfjaaDoor
open Go.RowKit Go.Deep Go.Proofs.YtbgbplbkombfjaaDoorW.PrintWords
set_option linter.unusedVariables false
set_option linter.unusedSimpArgs false
structure MsgV where
  m : Msg
  A : Option Addr
  n : Nat
  c : Nat
def GoodMsg (W : World) (x : MsgV) : Prop := x.m.wf ∧ Kd.C (Kd.int .u32) W x.A x.n x.m.l
section
variable {H : Type} {enc : TypeId × Value → H} {W : World} {base : Nat} {spare : Nat → Bool} {held : Bool}
theorem opens_akey : Opens enc Tryd.prog W base spare held 53 (Kd.pair (Kd.int .u32) (Kd.int .u32)) (fun x => (Lit.int .u32 x.1).wf = true ∧ (Lit.int .u32 x.2).wf = true) :=
  opens_imp (opens_struct Tryd.underlying53 (by kernel_rfl) (opensAt_cons (opens_int Tryd.underlying23) rfl (by kernel_rfl) (opensAt_one (opens_int Tryd.underlying23) rfl (by kernel_rfl)))) (fun a h => ⟨h.1, h.2⟩)
theorem opens_msg (fuel : Nat) (cs : List Value) (y : _) (h : DataW.trod enc Tryd.prog W base spare held fuel 56 cs = some y) : ∃ x : MsgV, cs = (x.m.cells (.slice x.A x.n x.c)).toList ∧ GoodMsg W x := by
  obtain ⟨a, hK, hG⟩ := (opens_struct (enc := enc) (W := W) (base := base) (spare := spare) (held := held) Tryd.underlying56 (by kernel_rfl) (opensAt_cons (opens_int Tryd.underlying3) rfl (by kernel_rfl) (opensAt_cons (opens_int Tryd.underlying23) rfl (by kernel_rfl) (opensAt_cons (opens_int Tryd.underlying23) rfl (by kernel_rfl) (opensAt_cons opens_akey rfl (by kernel_rfl) (opensAt_cons (opens_int Tryd.underlying3) rfl (by kernel_rfl) (opensAt_cons (opens_int Tryd.underlying3) rfl (by kernel_rfl) (opensAt_cons (opens_bool Tryd.underlying4) rfl (by kernel_rfl) (opensAt_one (opens_slice Tryd.underlying54 (by kernel_rfl) (opens_int Tryd.underlying23)) rfl (by kernel_rfl)))))))))) fuel cs y h
  obtain ⟨kind, src, dst, ⟨ksrc, kgrp⟩, rank, cost, only, l⟩ := a
  obtain ⟨_, _, rfl, rfl, _, _, rfl, rfl, _, _, rfl, rfl, _, _, rfl, ⟨_, _, rfl, rfl, rfl⟩, _, _, rfl, rfl, _, _, rfl, rfl, _, _, rfl, rfl, ⟨A, c, rfl, hle, hC⟩⟩ := hK
  obtain ⟨_, g1, g2, ⟨g3, g4⟩, _, _, _, g5⟩ := hG
  exact ⟨⟨⟨kind, src, dst, ksrc, kgrp, rank, cost, only, l⟩, A, l.length, c⟩, rfl, ⟨u32_wf g1, u32_wf g2, u32_wf g3, u32_wf g4, fun a ha => u32_wf (g5 a ha)⟩, hC⟩
end
end Go.Proofs.YtbgbplbkombfjaaDoor
