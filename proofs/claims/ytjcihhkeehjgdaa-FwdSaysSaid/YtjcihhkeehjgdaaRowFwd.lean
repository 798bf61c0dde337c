/- Rows, lost ports, a packet, a key that came in. -/
import Derived.Test.YtjcihhkeehjgdaaOpens
import Derived.Test.YtjcihhkeehjgdaaPFwdSaysx0
namespace Go.Proofs.Ytjcihhkeehjgdaa
open Go.RowKit Go.Deep Go.Proofs.YtjcihhkeehjgdaaW.PrintWords Ytjcihhkeehjgdaa.PFwdSays
set_option linter.unusedVariables false
set_option linter.unusedSimpArgs false
instance : Inhabited S69 := ⟨z69⟩
instance : Inhabited S78 := ⟨z78⟩
instance : Inhabited S82 := ⟨z82⟩
structure SPacket where
  f0 : S69
  f1 : Int
def kPacket : Kd SPacket := Kd.iso (Kd.pair k69 (Kd.int .i64)) (fun x : SPacket => (x.f0, x.f1))
theorem kPacket_open {w : World} {x : SPacket} {cs : List Value} (h : kPacket.K w x cs) : cs = [.int .u32 x.f0.f0, .int .u32 x.f0.f1, .int .i64 x.f1] := by
  obtain ⟨_, _, rfl, s0, rfl⟩ := h
  obtain rfl := k69_open s0
  exact rfl
def GoodKey (x : S69) : Prop := (Lit.int .u32 x.f0).wf = true ∧ (Lit.int .u32 x.f1).wf = true
def GoodPacket (x : SPacket) : Prop := GoodKey x.f0 ∧ (Lit.int .i64 x.f1).wf = true
def GoodLost (x : S82) : Prop := (Lit.int .i64 x.f0).wf = true ∧ GoodKey x.f1
def AnyLost (l : List S82) : Prop := True
def AnyRows (l : List S78) : Prop := True
section
variable {H : Type} {enc : TypeId × Value → H} {W : World} {base : Nat} {spare : Nat → Bool} {held : Bool}
theorem opens_key : Opens enc Try.prog W base spare held 69 k69 GoodKey :=
  opens_iso (opens_struct Try.underlying69 (by kernel_rfl) (opensAt_cons (opens_int Try.underlying28) rfl (by kernel_rfl) (opensAt_one (opens_int Try.underlying28) rfl (by kernel_rfl)))) (fun x : S69 => (x.f0, x.f1)) (fun x => ⟨x.1, x.2⟩) (fun _ => rfl)
theorem opens_packet : Opens enc Try.prog W base spare held 71 kPacket GoodPacket :=
  opens_iso (opens_struct Try.underlying71 (by kernel_rfl) (opensAt_cons opens_key rfl (by kernel_rfl) (opensAt_one (opens_int Try.underlying3) rfl (by kernel_rfl)))) (fun x : SPacket => (x.f0, x.f1)) (fun x => ⟨x.1, x.2⟩) (fun _ => rfl)
theorem opens_lost1 : Opens enc Try.prog W base spare held 82 k82 GoodLost :=
  opens_iso (opens_struct Try.underlying82 (by kernel_rfl) (opensAt_cons (opens_int Try.underlying3) rfl (by kernel_rfl) (opensAt_one opens_key rfl (by kernel_rfl)))) (fun x : S82 => (x.f0, x.f1)) (fun x => ⟨x.1, x.2⟩) (fun _ => rfl)
theorem opens_lost : Opens enc Try.prog W base spare held 67 (Kd.slice 82 k82) AnyLost :=
  opens_imp (opens_slice Try.underlying67 (by kernel_rfl) opens_lost1) (fun _ _ => trivial)
theorem opens_ints : Opens enc Try.prog W base spare held 73 (Kd.slice 3 (Kd.int .i64)) (fun _ => True) :=
  opens_imp (opens_slice Try.underlying73 (by kernel_rfl) (opens_int Try.underlying3)) (fun _ _ => trivial)
theorem opens_row1 : Opens enc Try.prog W base spare held 78 k78 (fun _ => True) :=
  opens_imp (opens_iso (opens_struct Try.underlying78 (by kernel_rfl) (opensAt_cons (opens_int Try.underlying3) rfl (by kernel_rfl) (opensAt_cons (opens_int Try.underlying3) rfl (by kernel_rfl) (opensAt_cons (opens_int Try.underlying3) rfl (by kernel_rfl) (opensAt_cons opens_key rfl (by kernel_rfl) (opensAt_one opens_ints rfl (by kernel_rfl))))))) (fun x : S78 => (x.f0, x.f1, x.f2, x.f3, x.f4)) (fun x => ⟨x.1, x.2.1, x.2.2.1, x.2.2.2.1, x.2.2.2.2⟩) (fun _ => rfl)) (fun _ _ => trivial)
theorem opens_rows : Opens enc Try.prog W base spare held 66 (Kd.slice 78 k78) AnyRows :=
  opens_imp (opens_slice Try.underlying66 (by kernel_rfl) opens_row1) (fun _ _ => trivial)
end
end Go.Proofs.Ytjcihhkeehjgdaa
