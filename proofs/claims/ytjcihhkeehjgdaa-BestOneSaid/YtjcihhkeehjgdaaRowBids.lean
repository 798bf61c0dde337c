/- Bids that came in. -/
import Derived.Test.YtjcihhkeehjgdaaOpens
import Derived.Test.YtjcihhkeehjgdaaBid
namespace Go.Proofs.Ytjcihhkeehjgdaa
open Go.RowKit Go.Deep Go.Proofs.YtjcihhkeehjgdaaW.PrintWords
set_option linter.unusedVariables false
set_option linter.unusedSimpArgs false
instance : Inhabited SBid := ⟨zBid⟩
def GoodBid (x : SBid) : Prop := (Lit.int .i64 x.f0).wf = true ∧ (Lit.int .u32 x.f1).wf = true
def GoodBids (l : List SBid) : Prop := ∀ x ∈ l, GoodBid x
section
variable {H : Type} {enc : TypeId × Value → H} {W : World} {base : Nat} {spare : Nat → Bool} {held : Bool}
theorem opens_bid : Opens enc Try.prog W base spare held 30 kBid GoodBid :=
  opens_iso (opens_struct Try.underlying30 (by kernel_rfl) (opensAt_cons (opens_int Try.underlying3) rfl (by kernel_rfl) (opensAt_one (opens_int Try.underlying28) rfl (by kernel_rfl)))) (fun x : SBid => (x.f0, x.f1)) (fun x => ⟨x.1, x.2⟩) (fun _ => rfl)
theorem opens_bids : Opens enc Try.prog W base spare held 22 (Kd.slice 30 kBid) GoodBids :=
  opens_slice Try.underlying22 (by kernel_rfl) opens_bid
end
end Go.Proofs.Ytjcihhkeehjgdaa
