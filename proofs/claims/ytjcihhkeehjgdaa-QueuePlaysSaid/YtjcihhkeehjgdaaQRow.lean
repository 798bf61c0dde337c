/- A row of bytes that came in. -/
import Derived.Test.YtjcihhkeehjgdaaOpens
import Derived.Test.YtjcihhkeehjgdaaSumPlain
namespace Go.Proofs.Ytjcihhkeehjgdaa
open Go.RowKit Go.Deep Go.Proofs.YtjcihhkeehjgdaaW.PrintWords
set_option linter.unusedVariables false
set_option linter.unusedSimpArgs false
theorem u8_wf {n : Int} (h : (Lit.int .u8 n).wf = true) : 0 ≤ n ∧ n ≤ 255 := by
  simp [Lit.wf, IntKind.min, IntKind.max, IntKind.signed, IntKind.bits] at h
  omega
section
variable {H : Type} {enc : TypeId × Value → H} {W : World} {base : Nat} {spare : Nat → Bool} {held : Bool}
def GoodBytes (l : List Int) : Prop := SumPlain.Byt l
theorem opens_bytes : Opens enc Try.prog W base spare held 40 (Kd.slice 5 (Kd.int .u8)) GoodBytes :=
  opens_imp (opens_slice Try.underlying40 (by kernel_rfl) (opens_int Try.underlying5)) (fun l h x hx => u8_wf (h x hx))
end
end Go.Proofs.Ytjcihhkeehjgdaa
