/- queue.All. -/
import Derived.Test.YtjcihhkeehjgdaaQFlip
namespace Go.Proofs.Ytjcihhkeehjgdaa
open Go.RowKit Go.Proofs.YtjcihhkeehjgdaaW.PrintWords SumPlain
set_option linter.unusedVariables false
set_option linter.unusedSimpArgs false
attribute [local go_sem] setCell_drewN alloc_drewN
theorem take_next {α : Type} (l : List α) (j : Nat) (x z : α) (h : j < l.length) (he : l.getD j z = x) : l.take (j + 1) = l.take j ++ [x] := by
  rw [List.take_succ_eq_append_getElem h]
  congr 2
  rw [List.getD_eq_getElem?_getD, List.getElem?_eq_getElem h] at he
  exact he
set_option maxHeartbeats 4000000 in
set_option maxRecDepth 100000 in
theorem all_any (w : World) (base : Nat) (ok : Nat → Prop) (g : Nat) (L : List (Int × List Int)) (d : Int) (hQ : QS base ok w g L d) (hL : L.length ≤ 10000) (hl : ∀ x ∈ L, x.2.length ≤ 1000000) :
    Calls Try.prog 29 #[.pointer (some ⟨g, 0, none⟩)] w fun e w' => ∃ v, e = .returned v ∧ Kd.S kIt 42 w' w.heap.size (fun _ => True) v L ∧ Below w.heap.size w w' := by
  have hu := Try.underlying38
  have hu2 := Try.underlying42
  have HS := Aside0.mk (And.intro hQ hl)
  obtain ⟨v, hq, hR⟩ := hQ
  obtain ⟨A0, c0, rfl, hle0, hC0⟩ := Kd.S_reads hR
  obtain ⟨N, hN⟩ : ∃ N, N = L.length := ⟨_, rfl⟩
  rw [← hN] at hq hR hle0 hL
  have HN := Aside0.mk hN
  have p0 := (blk_cell hq 0).trans rfl
  have HR := Aside0.mk hR
  clear hq hR hC0 hN hl
  go_enter Try.func29, Try.ntmps29
  go_wp2_with fail
  clear p0
  go_loopg [3, 11] N (fun k v3 v11 wr => ∃ (j : Nat) (v : Value), j + k = N ∧ v = v3 ∧ v11 = .int .i64 j ∧ Aside0 (Kd.S kIt 42 wr w.heap.size (fun _ => True) v (L.take j) ∧ Below w.heap.size w wr))
  case atStart => exact ⟨0, _, by omega, rfl, rfl, ⟨Kd.S_nil _ _ _ _ _, Below.refl _ _⟩⟩
  case round =>
    obtain ⟨j, v9, hj, hv9, rfl, HV⟩ := hrel
    subst hv9
    by_cases hlt : j < N
    · have hRw := Kd.S_below HR.out HV.out.2
      obtain ⟨p, l, hpl⟩ : ∃ p l, L.getD j (0, []) = (p, l) := ⟨_, _, rfl⟩
      have hjL : j < L.length := by rw [← HN.out]; exact hlt
      have hll : l.length ≤ 1000000 := by
        have := HS.out.2 (L.getD j (0, [])) (by rw [List.getD_eq_getElem?_getD, List.getElem?_eq_getElem hjL]; exact List.getElem_mem hjL)
        rw [hpl] at this
        exact this
      obtain ⟨h, c1, he1, hh0, hhw, _⟩ := Kd.S_form hRw (by omega)
      injection he1 with he1 hnn he3
      subst he1 he3
      clear hnn
      have hel := Kd.R_elem (Kd.S_R hRw) (0, []) (j : Int) (by omega) (by omega)
      rw [show (j : Int).toNat = j by omega, hpl] at hel
      obtain ⟨cs, hcl, ⟨x0, x1, rfl, hx0, u, rfl, hRu⟩, hcc, hfz⟩ := hel
      have hx0' : x0 = [.int .i64 p] := hx0
      subst hx0'
      have e0 := hcc 0 (.int .i64 p) rfl
      have e1 := hcc 1 u rfl
      have esz : (Kd.pair (Kd.int .i64) (Kd.slice 5 (Kd.int .u8))).sz = 2 := rfl
      rw [esz] at e0 e1
      rw [Nat.add_zero] at e0
      obtain ⟨Au, cu, rfl, hlu, hCu⟩ := Kd.R_reads hRu
      have htk := take_next L j (p, l) (0, []) hjL hpl
      have hbX := below_alloc (Below.refl wr.heap.size wr) (.cells #[.int .i64 p, .slice Au l.length cu] 42)
      have HT := Aside0.mk (And.intro htk (And.intro (Kd.C_below hCu hbX) (And.intro hll hbX)))
      obtain ⟨nu, hnu⟩ : ∃ nu, nu = l.length := ⟨_, rfl⟩
      rw [← hnu] at e1 HT hbX
      have HNU := Aside0.mk hnu
      clear hRw hcc hfz hx0 hRu hCu htk hll hbX hcl hpl hjL hh0 hhw hnu
      go_wp2_with fail
      refine (own_any p Au nu cu l _ HT.out.2.1 (by rw [← HNU.out]; exact HT.out.2.2.1)).mono ?_
      rintro e w5 ⟨u5, rfl, hRu5, hb5⟩
      have hX5 : Below wr.heap.size wr w5 := reach_to HT.out.2.2.2 HT.out.2.2.2.size hb5
      have hwr := HV.out.2.size
      have HO := Aside0.mk (And.intro (Kd.S_mono (ok' := fun k => True ∧ ¬ wr.heap.size ≤ k) (Kd.S_below (Kd.S_bound HV.out.1) hX5) (fun k hk => ⟨trivial, fun h => by have := hk.2.2.1; omega⟩))
        (And.intro (Kd.R_lower (Kd.R_mono (ok' := fun k => wr.heap.size ≤ k) (Kd.R_bound hRu5) (fun k hk => Nat.le_trans HT.out.2.2.2.size hk.2.1)) (Nat.le_trans hwr HT.out.2.2.2.size)) (And.intro (reach_to HV.out.2 hwr hX5) (Nat.le_trans hwr hX5.size))))
      clear hRu5 hb5 hX5 hwr
      go_wp2_with (at_builtin; refine Kd.S_append kIt (w0 := w) (W := w5) w.heap.size rfl (.tmp 15) (.tmp 18) 36 42 (.agg #[.int .i64 0, .slice none 0 0]) 32 rfl Try.underlying36 Try.infoIt rfl (by decide) (by decide) v9 (L.take j) (p, l) [.int .i64 p, u5] (fun _ => True) (fun k => wr.heap.size ≤ k) rfl rfl ⟨[.int .i64 p], [u5], rfl, rfl, u5, rfl, HO.out.2.1⟩ (fun k hk => ⟨trivial, fun e => by have := Kd.S_lt HV.out.1 k e.symm; omega⟩) (fun _ _ => trivial) HO.out.1 HO.out.2.2.1 HO.out.2.2.2 ?_ ?_)
      · rw [List.length_take]; omega
      intro v6 w6 hS6 hB6 _ _
      rw [← HT.out.1] at hS6
      have HZ := Aside0.mk (And.intro hS6 hB6)
      clear hS6 hB6
      go_wp2
      go_roundg (gk - 1)
      case measure => omega
      case rel => exact ⟨j + 1, _, by omega, rfl, by go_num, HZ⟩
    · obtain rfl : N = j := by omega
      have hT : L.take N = L := List.take_of_length_le (by rw [← HN.out]; exact Nat.le_refl _)
      have HV2 := Aside0.mk HV.out
      rw [hT] at HV2
      clear hT HV
      go_wp2
      go_ret
      exact ⟨_, rfl, HV2.out.1, HV2.out.2⟩
end Go.Proofs.Ytjcihhkeehjgdaa
