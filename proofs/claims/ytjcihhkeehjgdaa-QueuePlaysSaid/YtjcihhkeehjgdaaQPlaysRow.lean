/- A row of things that a queue is told, as it came in. -/
import Derived.Test.YtjcihhkeehjgdaaQRow
import Derived.Test.YtjcihhkeehjgdaaLawQueuePlays
namespace Go.Proofs.Ytjcihhkeehjgdaa
open Go.RowKit Go.Deep Go.Proofs.YtjcihhkeehjgdaaW.PrintWords
set_option linter.unusedVariables false
set_option linter.unusedSimpArgs false
instance : Inhabited SDo := ⟨zDo⟩
def GoodDo (x : SDo) : Prop := x.2.2.1 ≤ 9223372036854775807
def GoodDos (l : List SDo) : Prop := ∀ x ∈ l, x.2.2.1 ≤ 9223372036854775807
theorem i64_wf {n : Int} (h : (Lit.int .i64 n).wf = true) : n ≤ 9223372036854775807 := by
  simp [Lit.wf, IntKind.min, IntKind.max, IntKind.signed, IntKind.bits] at h
  omega
theorem plays_all (A : Option Addr) (n c : Nat) (l : List SDo) (w : World) (hC : Kd.C kDo w A n l) (hG : GoodDos l) :
    Calls Try.prog 10 #[.slice A n c] w fun e w' => e = .returned (.bool true) ∧ Below w.heap.size w w' := by
  by_cases hn : n ≤ 60
  · exact plays_good A n c l w hC hn hG
  · exact plays_long A n c w (by omega) (Kd.C_max hC)
section
variable {H : Type} {enc : TypeId × Value → H} {W : World} {base : Nat} {spare : Nat → Bool} {held : Bool}
set_option maxRecDepth 100000 in
theorem opens_do : Opens enc Try.prog W base spare held 60 kDo GoodDo :=
  opens_imp (opens_struct Try.underlying60 (by kernel_rfl) (opensAt_cons (opens_int Try.underlying3) rfl (by kernel_rfl) (opensAt_cons (opens_int Try.underlying3) rfl (by kernel_rfl) (opensAt_cons (opens_int Try.underlying3) rfl (by kernel_rfl) (opensAt_one opens_bytes rfl (by kernel_rfl)))))) (fun x h => i64_wf h.2.2.1)
theorem opens_dos : Opens enc Try.prog W base spare held 53 (Kd.slice 60 kDo) GoodDos :=
  opens_slice Try.underlying53 (by kernel_rfl) opens_do
end
end Go.Proofs.Ytjcihhkeehjgdaa
