/- wire.reader: addr, number. -/
import Derived.Test.YtbgbplbkombfjaaDoorWNext
namespace Go.Proofs.YtbgbplbkombfjaaDoor
open Go.RowKit Go.Proofs.YtbgbplbkombfjaaDoorW.PrintWords SumPlain
set_option linter.unusedVariables false
set_option linter.unusedSimpArgs false
attribute [local go_sem] setCell_drewN alloc_drewN
theorem RS.below {w0 w w' : World} {r : Nat} {s : List Int × Bool} (h : RS w0 w r s) (hb : Below w.heap.size w w') : RS w0 w' r s := by
  obtain ⟨⟨A, n, c, hr, hle, hC⟩, hB, hlt⟩ := h
  exact ⟨⟨A, n, c, blk_below hr hb, hle, hC⟩, reach_to' hB hB.size hb, hlt⟩
theorem nx_byt (k : Nat) (s : List Int × Bool) (h : Byt s.1) : Byt (nx k s).1 ∧ Byt (nx k s).2.1 := by
  unfold nx
  split
  · refine ⟨fun x hx => ?_, h⟩
    rw [List.mem_replicate] at hx
    omega
  · exact ⟨fun x hx => h x (List.mem_of_mem_take hx), fun x hx => h x (List.mem_of_mem_drop hx)⟩
def rA (s : List Int × Bool) : Int × (List Int × Bool) := (adAt (nx 4 s).1 0, (nx 4 s).2)
def rN (s : List Int × Bool) : Int × (List Int × Bool) := (nuAt (nx 2 s).1 0, (nx 2 s).2)
def rB (s : List Int × Bool) : Int × (List Int × Bool) := ((nx 1 s).1.getD 0 0, (nx 1 s).2)
set_option maxHeartbeats 1000000 in
set_option maxRecDepth 100000 in
theorem addr_rd (w0 w : World) (r : Nat) (s : List Int × Bool) (h : RS w0 w r s) (hby : Byt s.1) :
    Calls Tryd.prog 64 #[.pointer (some ⟨r, 0, none⟩)] w fun e w' => e = .returned (.int .u32 (rA s).1) ∧ RS w0 w' r (rA s).2 ∧ Fr r w w' := by
  have hu := Tryd.underlying73
  have HS := Aside0.mk h
  have HY := Aside0.mk (nx_byt 4 s hby).1
  clear h hby
  go_enter Tryd.func64, Tryd.ntmps64
  go_wp2_with fail
  refine (next4 w0 w r s HS.out).mono ?_
  rintro e w1 ⟨A, c, rfl, hc, hC, hS, hF⟩
  obtain ⟨ad, b0, rfl, _, _⟩ := at_nat hC 0 (by omega)
  have q0 := cell0_of hC (by omega)
  have q1 := cells_of hC 1 (by omega) (by omega)
  have q2 := cells_of hC 2 (by omega) (by omega)
  have q3 := cells_of hC 3 (by omega) (by omega)
  obtain ⟨k0, k0'⟩ := byt_getD HY.out 0
  obtain ⟨k1, k1'⟩ := byt_getD HY.out 1
  obtain ⟨k2, k2'⟩ := byt_getD HY.out 2
  obtain ⟨k3, k3'⟩ := byt_getD HY.out 3
  have HE : Aside0 (adOf ((nx 4 s).1.getD 0 0) ((nx 4 s).1.getD 1 0) ((nx 4 s).1.getD 2 0) ((nx 4 s).1.getD 3 0) = (rA s).1) := ⟨rfl⟩
  have HR := Aside0.mk (And.intro hS hF)
  clear hC hS hF
  generalize (nx 4 s).1.getD 0 0 = b0 at *
  generalize (nx 4 s).1.getD 1 0 = b1 at *
  generalize (nx 4 s).1.getD 2 0 = b2 at *
  generalize (nx 4 s).1.getD 3 0 = b3 at *
  have r4 : ∀ (a : Addr) (d : Nat) (W : World), (Instr.arrayAt 73 (.slice (some a) 4 d)).run Tryd.prog W = .ok (.pointer (some a)) W := fun _ _ _ => by kernel_rfl
  go_wp2_with fail
  refine (addrOf_any b0 b1 b2 b3 _ k0 k0' k1 k1' k2 k2' k3 k3').mono ?_
  rintro e w2 ⟨rfl, hw2⟩
  have hb2 : Below w1.heap.size w1 w2 := by rw [hw2]; exact below_alloc (Below.refl _ _) _
  rw [HE.out]
  clear hw2 q0 q1 q2 q3
  go_wp2
  go_ret
  exact ⟨rfl, HR.out.1.below hb2, HR.out.2.trans (Fr.below hb2)⟩
set_option maxHeartbeats 1000000 in
set_option maxRecDepth 100000 in
theorem num_rd (w0 w : World) (r : Nat) (s : List Int × Bool) (h : RS w0 w r s) (hby : Byt s.1) :
    Calls Tryd.prog 65 #[.pointer (some ⟨r, 0, none⟩)] w fun e w' => e = .returned (.int .i64 (rN s).1) ∧ RS w0 w' r (rN s).2 ∧ Fr r w w' := by
  have HS := Aside0.mk h
  have HY := Aside0.mk (nx_byt 2 s hby).1
  clear h hby
  go_enter Tryd.func65, Tryd.ntmps65
  go_wp2_with fail
  refine (next2 w0 w r s HS.out).mono ?_
  rintro e w1 ⟨A, c, rfl, hc, hC, hS, hF⟩
  obtain ⟨ad, b0, rfl, _, _⟩ := at_nat hC 0 (by omega)
  have q0 := cell0_of hC (by omega)
  have q1 := cells_of hC 1 (by omega) (by omega)
  obtain ⟨k0, k0'⟩ := byt_getD HY.out 0
  obtain ⟨k1, k1'⟩ := byt_getD HY.out 1
  have HE : Aside0 ((nx 2 s).1.getD 0 0 * 256 + (nx 2 s).1.getD 1 0 = (rN s).1) := ⟨rfl⟩
  have HR := Aside0.mk (And.intro hS hF)
  clear hC hS hF
  generalize (nx 2 s).1.getD 0 0 = b0 at *
  generalize (nx 2 s).1.getD 1 0 = b1 at *
  have o1 := or64_8 b0 b1 k0 k0' k1 k1'
  go_wp2_with fail
  go_quiet (fail)
  go_wp2
  go_ret
  exact ⟨ret_int HE.out, HR.out.1.below (pw_below_drewN (Below.refl _ _) _), HR.out.2.trans (Fr.below (pw_below_drewN (Below.refl _ _) _))⟩
end Go.Proofs.YtbgbplbkombfjaaDoor
