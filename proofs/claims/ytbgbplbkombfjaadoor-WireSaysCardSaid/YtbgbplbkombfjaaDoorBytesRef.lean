/- rivuletref.Bytes: a copy in new memory. -/
import Derived.Test.YtbgbplbkombfjaaDoorOwn
import Derived.Test.YtbgbplbkombfjaaDoorSumPlain
namespace Go.Proofs.YtbgbplbkombfjaaDoor
open Go.RowKit Go.Proofs.YtbgbplbkombfjaaDoorW.PrintWords
set_option linter.unusedVariables false
set_option linter.unusedSimpArgs false
theorem Tryd.infoB : (Tryd.prog.info? 5).map (fun i => (i.zero, i.size, i.bytes)) = some (some (.int .u8 0), 1, 1) := by kernel_rfl
set_option maxHeartbeats 400000 in
theorem bytes_any (A : Option Addr) (n c : Nat) (l : List Int) (w : World) (hr : Kd.C (Kd.int .u8) w A n l) (hl : l.length ≤ 1000000) :
    Calls Tryd.prog 23 #[.slice A n c] w fun e w' => ∃ v, e = .returned v ∧ (Kd.int .u8).R 5 w' w.heap.size (fun _ => True) v l ∧ Below w.heap.size w w' := by
  obtain rfl := hr.1
  have hmk := run_make0 (P := Tryd.prog) 26 5 (.int .u8 0) 1 1 Tryd.underlying26 Tryd.infoB l.length (by omega) (by omega)
  go_enter Tryd.func23, Tryd.ntmps23
  go_wp2
  go_loopg [3, 4] l.length (fun k v i wr => ∃ j : Nat, j + k = l.length ∧ i = .int .i64 j ∧ (Kd.int .u8).R 5 wr w.heap.size (fun _ => True) v (l.take j) ∧ Below w.heap.size w wr)
  case atStart => exact ⟨0, by omega, rfl, by simpa [Value.cells, Kd.int, Kd.scalar] using made0_R (Kd.int .u8) 5 w w.heap.size (.int .u8 0) l.length (fun _ => True) (Nat.le_refl _) (by omega) trivial, (Below.refl _ _).alloc (Nat.le_refl _) _⟩
  case round =>
    obtain ⟨j, hj, rfl, hown, hbel⟩ := hrel
    by_cases hlt : j < l.length
    · obtain ⟨ad, x, rfl, hc, HX⟩ := at_nat (Kd.C_below hr hbel) j hlt
      have HS : Aside0 (l.take (j + 1) = l.take j ++ [x]) := ⟨by rw [SumPlain.take_snoc l j hlt, HX.out]⟩
      clear HX
      have hgs := hbel.size
      have hlen : (l.take j).length ≤ j := List.length_take_le _ _
      go_wp2_with (at_builtin; refine Kd.R_append (Kd.int .u8) (w0 := w) w.heap.size rfl (.tmp 14) (.tmp 19) 26 5 (.int .u8 0) 1 rfl Tryd.underlying26 Tryd.infoB rfl (by decide) (by decide) _ (l.take j) x [.int .u8 x] (fun _ => True) (fun _ => False) rfl rfl rfl (fun _ hk => hk.elim) (fun _ _ => trivial) hown hbel hgs ?c6 ?_)
      case c6 => omega
      intro v1 w1 hown1 hbel1 _ _
      rw [← HS.out] at hown1
      go_wp2
      go_roundg (gk - 1)
      case measure => omega
      case rel => exact ⟨j + 1, by omega, by go_num, hown1, hbel1⟩
    · obtain rfl : j = l.length := by omega
      rw [List.take_length] at hown
      go_wp2
      go_ret
      exact ⟨_, rfl, hown, hbel⟩
end Go.Proofs.YtbgbplbkombfjaaDoor
