/- A header that came in. -/
import Derived.Test.YtbgbplbkombfjaaDoorOpens
import Derived.Test.YtbgbplbkombfjaaDoorIpBytes
namespace Go.Proofs.YtbgbplbkombfjaaDoor
open Go.RowKit Go.Deep Go.Proofs.YtbgbplbkombfjaaDoorW.PrintWords
set_option linter.unusedVariables false
set_option linter.unusedSimpArgs false
def kHdr : Kd Hdr := Kd.iso (Kd.pair (Kd.int .i64) (Kd.pair (Kd.int .i64) (Kd.pair (Kd.int .i64) (Kd.pair (Kd.int .i64) (Kd.pair (Kd.int .u32) (Kd.int .u32)))))) (fun x : Hdr => (x.len, x.id, x.ttl, x.proto, x.src, x.dst))
theorem kHdr_open {w : World} {x : Hdr} {cs : List Value} (h : kHdr.K w x cs) : cs = x.cells.toList := by
  obtain ⟨_, _, rfl, rfl, _, _, rfl, rfl, _, _, rfl, rfl, _, _, rfl, rfl, _, _, rfl, rfl, rfl⟩ := h
  rfl
theorem u32_wf {n : Int} (h : (Lit.int .u32 n).wf = true) : 0 ≤ n ∧ n < 4294967296 := by
  simp [Lit.wf, IntKind.min, IntKind.max, IntKind.signed, IntKind.bits] at h
  omega
theorem u8_wf {n : Int} (h : (Lit.int .u8 n).wf = true) : 0 ≤ n ∧ n ≤ 255 := by
  simp [Lit.wf, IntKind.min, IntKind.max, IntKind.signed, IntKind.bits] at h
  omega
def GoodHdr (x : Hdr) : Prop := x.wf
section
variable {H : Type} {enc : TypeId × Value → H} {W : World} {base : Nat} {spare : Nat → Bool} {held : Bool}
theorem opens_hdr : Opens enc Tryd.prog W base spare held 25 kHdr GoodHdr :=
  opens_imp (opens_iso (opens_struct Tryd.underlying25 (by kernel_rfl) (opensAt_cons (opens_int Tryd.underlying3) rfl (by kernel_rfl) (opensAt_cons (opens_int Tryd.underlying3) rfl (by kernel_rfl) (opensAt_cons (opens_int Tryd.underlying3) rfl (by kernel_rfl) (opensAt_cons (opens_int Tryd.underlying3) rfl (by kernel_rfl) (opensAt_cons (opens_int Tryd.underlying23) rfl (by kernel_rfl) (opensAt_one (opens_int Tryd.underlying23) rfl (by kernel_rfl)))))))) (fun x : Hdr => (x.len, x.id, x.ttl, x.proto, x.src, x.dst)) (fun x => ⟨x.1, x.2.1, x.2.2.1, x.2.2.2.1, x.2.2.2.2.1, x.2.2.2.2.2⟩) (fun _ => rfl)) (fun a h => ⟨u32_wf h.2.2.2.2.1, u32_wf h.2.2.2.2.2⟩)
def GoodBytes (l : List Int) : Prop := SumPlain.Byt l
theorem opens_bytes : Opens enc Tryd.prog W base spare held 26 (Kd.slice 5 (Kd.int .u8)) GoodBytes :=
  opens_imp (opens_slice Tryd.underlying26 (by kernel_rfl) (opens_int Tryd.underlying5)) (fun l h x hx => u8_wf (h x hx))
end
end Go.Proofs.YtbgbplbkombfjaaDoor
