/- slices.Delete at []Item: one element taken out. -/
import Derived.Test.YtjcihhkeehjgdaaQPut
namespace Go.Proofs.Ytjcihhkeehjgdaa
open Go.RowKit Go.Proofs.YtjcihhkeehjgdaaW.PrintWords SumPlain
set_option linter.unusedVariables false
set_option linter.unusedSimpArgs false
attribute [local go_sem] setCell_drewN alloc_drewN
theorem R_behind {α : Type} {d : Kd α} {e g n c base : Nat} {ok : Nat → Prop} {W : World} {xs : List α} (HO : d.R e W base ok (.slice (some ⟨g, 0, none⟩) n c) xs) (j : Nat) (seg : List Value) (hj : n * d.sz ≤ j) (hs : j + seg.length ≤ c * d.sz) :
    d.R e (W.setCells g j seg) base ok (.slice (some ⟨g, 0, none⟩) n c) xs ∧ W.grownBy (W.setCells g j seg) (some g) ∧ (∀ i, i < c * d.sz → (W.cell? ⟨g, i, none⟩).isSome = true) ∧ ∀ i, W.frozen? ⟨g, i, none⟩ = false := by
  obtain ⟨hn, hnc, _⟩ := Kd.R_reads' HO
  obtain ⟨hok, inner, hown, hr⟩ := HO
  rcases hown.2 with ⟨hv, _⟩ | ⟨g', cap', cur, hv, hb, hh, h6, hcm, hcs, htake⟩
  · cases hv
  injection hv with ha _ hc
  injection ha with ha
  injection ha with hg
  subst hg; subst hc
  obtain ⟨cur', h3, h4, h5⟩ := setCells_row seg j W cur hh (by omega)
  obtain ⟨s1, s2, s3, s4⟩ := setCells_same g seg j W
  have hfar : ∀ k', k' ≠ g → (W.setCells g j seg).heap[k']? = W.heap[k']? := fun k' hk' => setCells_far seg _ k' hk'
  refine ⟨⟨hok, inner, ⟨hown.1, .inr ⟨g, c, cur', by rw [← hn], hb, h3, h6, hcm, by rw [h4, hcs], ?_⟩⟩, ?_⟩, ⟨s1, s2, s3, by rw [s4]; exact Nat.le_refl _, fun k' _ hk' => hfar k' (fun he => hk' (by rw [he]))⟩, fun i hi => ?_, fun i => blk_frozen hh i⟩
  · have hj' : xs.length * d.sz ≤ j := by rw [← hn]; exact hj
    have hlen : cur.toList.length = c * d.sz := by rw [Array.length_toList]; exact hcs
    rw [h5, List.append_assoc, List.take_append_of_le_length (by rw [List.length_take, hlen]; omega), List.take_take, Nat.min_eq_left hj']
    exact htake
  · exact hr.imp_ (fun p q hp => d.M_move (fun k' hk' => hfar k' (fun he => hk'.2 (by rw [he]; simp [Value.ownBlock]))) hp)
  · rw [cell_of_row W g i cur e (0, 0) hh]; simp; omega
theorem S_behind {α : Type} {d : Kd α} {e g n c base : Nat} {ok : Nat → Prop} {W : World} {xs : List α} (HO : Kd.S d e W base ok (.slice (some ⟨g, 0, none⟩) n c) xs) (j : Nat) (seg : List Value) (hj : n * d.sz ≤ j) (hs : j + seg.length ≤ c * d.sz) :
    Kd.S d e (W.setCells g j seg) base ok (.slice (some ⟨g, 0, none⟩) n c) xs ∧ W.grownBy (W.setCells g j seg) (some g) ∧ (∀ i, i < c * d.sz → (W.cell? ⟨g, i, none⟩).isSome = true) ∧ ∀ i, W.frozen? ⟨g, i, none⟩ = false := by
  obtain ⟨f, h⟩ := HO
  obtain ⟨h1, h2, h3, h4⟩ := R_behind h j seg hj hs
  exact ⟨⟨f, h1⟩, h2, h3, h4⟩
theorem slice_tail (h n c : Nat) (hn : 0 < n) (hc : n ≤ c) : ∀ W : World, (Instr.slice 36 (.slice (some ⟨h, 0, none⟩) (n - 1) c) (some (.int .i64 ((n - 1 : Nat) : Int))) (some (.int .i64 (n : Int))) none).run Try.prog W = .ok (.slice (some ⟨h, (n - 1) * 2, none⟩) 1 (c - (n - 1))) W := by
  intro W
  obtain ⟨i, hi, _, hsz, _⟩ := info_parts Try.infoIt
  have hel : Try.prog.elem 36 = 42 := by simp [Program.elem, Try.underlying36]
  have hu : Try.prog.underlying 36 = some (.slice (Try.prog.elem 36)) := by rw [hel]; exact Try.underlying36
  rw [run_slice_lh W 36 (some ⟨h, 0, none⟩) (n - 1) c hu .i64 .i64 ((n - 1 : Nat) : Int) (n : Int) (by omega) (by omega) (by omega), hel]
  have hne : ¬ c = n - 1 := by omega
  have e1 : n - (n - 1) = 1 := by omega
  simp [sizeOf, typeInfo, hi, hsz, sliced, Result.andThen, hne, Addr.add, e1]
  try omega
theorem slice_three (h n c lo : Nat) (hlo : lo < n) (hc : n ≤ c) : ∀ W : World, ∃ v, (Instr.slice 36 (.slice (some ⟨h, 0, none⟩) n c) (some (.int .i64 (lo : Int))) (some (.int .i64 ((lo : Int) + 1))) (some (.int .i64 (n : Int)))).run Try.prog W = .ok v W := by
  intro W
  obtain ⟨i, hi, _, hsz, _⟩ := info_parts Try.infoIt
  have hel : Try.prog.elem 36 = 42 := by simp [Program.elem, Try.underlying36]
  have hu : Try.prog.underlying 36 = some (.slice (Try.prog.elem 36)) := by rw [hel]; exact Try.underlying36
  rw [run_slice_lhm W 36 (some ⟨h, 0, none⟩) n c hu .i64 .i64 .i64 (lo : Int) ((lo : Int) + 1) (n : Int) (by omega) (by omega) (by omega) (by omega), hel]
  simp [sizeOf, typeInfo, hi, hsz, Result.andThen]
theorem run_clear_item (ty : TypeId) (w : World) (b o c : Nat) (hc0 : (w.cell? ⟨b, o, none⟩).isSome = true) (hc1 : (w.cell? ⟨b, o + 1, none⟩).isSome = true) (hf : ∀ i, w.frozen? ⟨b, i, none⟩ = false) :
    (Builtin.clear_ #[36] ty #[.slice (some ⟨b, o, none⟩) 1 c]).run Try.prog w = .ok (.tuple #[]) (w.setCells b o [.int .i64 0, .slice none 0 0]) := by
  obtain ⟨i, hi, hz, hsz, _⟩ := info_parts Try.infoIt
  have hv : ∀ w, (zeroValue 42).run Try.prog w = .ok (.agg #[.int .i64 0, .slice none 0 0]) w := by intro w; simp [zeroValue, typeInfo, hi, hz]
  have hzc : (Builtin.zeroCells (Value.agg #[.int .i64 0, .slice none 0 0]).cells 1).toList = [.int .i64 0, .slice none 0 0] := by kernel_rfl
  have hst := run_storeCells_cells (P := Try.prog) b o [.int .i64 0, .slice none 0 0] 0 w (by
    intro j hj
    simp only [List.length_cons, List.length_nil] at hj
    rcases (by omega : j = 0 ∨ j = 1) with rfl | rfl
    · simpa using hc0
    · simpa using hc1) (by intro j hj; exact hf _) (by intro v hv'; simp at hv'; rcases hv' with rfl | rfl <;> rfl)
  simp only [Nat.add_zero] at hst
  simp [Builtin.clear_, run_underlying Try.underlying36, hv, hzc, hst]
set_option maxHeartbeats 4000000 in
set_option maxRecDepth 100000 in
theorem delete_any (h n c i : Nat) (L : List (Int × List Int)) (w w0 : World) (base : Nat) (ok : Nat → Prop) (hR : Kd.S kIt 42 w base ok (.slice (some ⟨h, 0, none⟩) n c) L) (hi : i < n) (hn : n ≤ 10000) (hB : Below base w0 w) (hbase : base ≤ w.heap.size) :
    Calls Try.prog 52 #[.slice (some ⟨h, 0, none⟩) n c, .int .i64 (i : Int), .int .i64 ((i : Int) + 1)] w fun e w' => e = .returned (.slice (some ⟨h, 0, none⟩) (n - 1) c) ∧ Kd.S kIt 42 w' base ok (.slice (some ⟨h, 0, none⟩) (n - 1) c) (L.eraseIdx i) ∧ Below base w0 w' ∧ w.grownBy w' (some h) := by
  obtain ⟨hnl, hnc, _⟩ := Kd.S_reads' hR
  obtain ⟨inf, hinf, hz0, hz1, hz2⟩ := info_parts Try.infoIt
  have hthree := slice_three h n c i hi hnc
  have htail := slice_tail h n c (by omega) hnc
  have hto := cut_to 36 42 .i64 Try.underlying36 Try.infoIt (some ⟨h, 0, none⟩) n c (i : Int) i rfl (by omega)
  have hfrom := cut_from 36 42 .i64 Try.underlying36 hinf 2 hz1 (some ⟨h, 0, none⟩) n c ((i : Int) + 1) (by omega) (by omega)
  simp only [show ((i : Int) + 1).toNat = i + 1 by omega] at hfrom
  have hcast : ((n : Int) - 1) = ((n - 1 : Nat) : Int) := by omega
  have HQ := Aside0.mk (And.intro hR (And.intro hB (And.intro hbase hi)))
  clear hR hB hbase hnl hz0 hz1 hz2 hinf
  obtain ⟨A9, hA9⟩ : ∃ A9, A9 = (if c = i + 1 then some (⟨h, 0, none⟩ : Addr) else Option.map (fun x : Addr => x.add ((i + 1) * 2)) (some ⟨h, 0, none⟩)) := ⟨_, rfl⟩
  rw [← hA9] at hfrom
  have HA := Aside0.mk hA9
  clear hA9
  go_enter Try.func52, Try.ntmps52
  obtain ⟨v3, hv3⟩ := hthree w
  go_wp2_with fail
  refine wp_region_held_drew (S := (fun _ => True)) (by kernel_rfl) ?_ (fun hHeld => ?_)
  · trivial
  refine wpAnyH_take (i := 0) (v := ?_) rfl (by kernel_rfl) (by kernel_rfl) (by kernel_rfl) (fun _ _ _ h => h) (Or.inl ⟨by rfl, ?_⟩) (by assumption) ?_
  rotate_left 1
  · intro w hSw; (try dsimp only at hSw); go_simp; try with_reducible rfl
  try simp only [Act.put, List.getElem_toArray, List.getElem_cons_zero, List.getElem_cons_succ, List.setIfInBounds_toArray, List.set_cons_zero, List.set_cons_succ]
  refine wpAnyH_take (i := 1) (v := ?_) rfl (by kernel_rfl) (by kernel_rfl) (by kernel_rfl) (fun _ _ _ h => h) (Or.inl ⟨by rfl, ?_⟩) (by assumption) ?_
  rotate_left 1
  · intro w hSw; (try dsimp only at hSw); go_simp; try with_reducible rfl
  try simp only [Act.put, List.getElem_toArray, List.getElem_cons_zero, List.getElem_cons_succ, List.setIfInBounds_toArray, List.set_cons_zero, List.set_cons_succ]
  refine wpAnyH_take (i := 2) (v := ?_) rfl (by kernel_rfl) (by kernel_rfl) (by kernel_rfl) (fun _ _ _ h => h) (Or.inl ⟨by rfl, ?_⟩) (by assumption) ?_
  rotate_left 1
  · intro w hSw; (try dsimp only at hSw); go_simp; try with_reducible rfl
  try simp only [Act.put, List.getElem_toArray, List.getElem_cons_zero, List.getElem_cons_succ, List.setIfInBounds_toArray, List.set_cons_zero, List.set_cons_succ]
  refine wpAnyH_take (i := 3) (v := ?_) rfl (by kernel_rfl) (by kernel_rfl) (by kernel_rfl) (fun _ _ _ h => h) (Or.inl ⟨by rfl, ?_⟩) (by assumption) ?_
  rotate_left 1
  · intro w hSw; (try dsimp only at hSw); go_simp; try with_reducible rfl
  try simp only [Act.put, List.getElem_toArray, List.getElem_cons_zero, List.getElem_cons_succ, List.setIfInBounds_toArray, List.set_cons_zero, List.set_cons_succ]
  refine wpAnyH_take (i := 4) (v := ?_) rfl (by kernel_rfl) (by kernel_rfl) (by kernel_rfl) (fun _ _ _ h => h) (Or.inl ⟨by rfl, ?_⟩) (by assumption) ?_
  rotate_left 1
  · intro w hSw; (try dsimp only at hSw); go_simp; try with_reducible rfl
  try simp only [Act.put, List.getElem_toArray, List.getElem_cons_zero, List.getElem_cons_succ, List.setIfInBounds_toArray, List.set_cons_zero, List.set_cons_succ]
  refine wpAnyH_take (i := 5) (v := ?_) rfl (by kernel_rfl) (by kernel_rfl) (by kernel_rfl) (fun _ _ _ h => h) (Or.inl ⟨by rfl, ?_⟩) (by assumption) ?_
  rotate_left 1
  · intro w hSw; (try dsimp only at hSw); go_simp; try with_reducible rfl
  try simp only [Act.put, List.getElem_toArray, List.getElem_cons_zero, List.getElem_cons_succ, List.setIfInBounds_toArray, List.set_cons_zero, List.set_cons_succ]
  refine wpAnyH_ready (rs := [6]) (by kernel_rfl) (by simp) ?_
  refine AllReadyH.cons rfl (fun K hK => ?_) ?_
  · refine Kd.S_delete_step kIt (w0 := w0) base (by rfl) (.tmp 22) (.tmp 25) 36 42 rfl Try.underlying36 (by kernel_rfl) (g := h) (n := n) (c := c) (k := i) (m := n - (i + 1)) (c2 := c - (i + 1)) (A := A9) (xs := L) (ok := ok) rfl rfl HA.out rfl (Kd.S_drew HQ.out.1) HQ.out.2.2.2 (below_drew HQ.out.2.1) HQ.out.2.2.1 (fun w1 hR1 hB1 hg1 => ?_)
    refine hK.out _ _ ?_ (fun hHeld => ?_)
    · trivial
    clear hK K
    try simp only [Act.put, List.getElem_toArray, List.getElem_cons_zero, List.getElem_cons_succ, List.setIfInBounds_toArray, List.set_cons_zero, List.set_cons_succ]
    refine wpAnyH_take (i := 7) (v := ?_) rfl (by kernel_rfl) (by kernel_rfl) (by kernel_rfl) (fun _ _ _ h => h) (Or.inl ⟨by rfl, ?_⟩) (by assumption) ?_
    rotate_left 1
    · intro w hSw; (try dsimp only at hSw); go_simp; try with_reducible rfl
    try simp only [Act.put, List.getElem_toArray, List.getElem_cons_zero, List.getElem_cons_succ, List.setIfInBounds_toArray, List.set_cons_zero, List.set_cons_succ]
    refine wpAnyH_done (by kernel_rfl) ?_ _
    clear hHeld
    have hlt1 : n - 1 < n := by omega
    obtain ⟨hR2, hg2, hcs, hfz⟩ := S_behind hR1 ((n - 1) * 2) [.int .i64 0, .slice none 0 0] (Nat.le_refl _) (by show (n - 1) * 2 + 2 ≤ c * 2; omega)
    have hclr := fun ty => run_clear_item ty w1 h ((n - 1) * 2) (c - (n - 1)) (hcs _ (by show (n - 1) * 2 < c * 2; omega)) (hcs _ (by show (n - 1) * 2 + 1 < c * 2; omega)) hfz
    have HV := Aside0.mk (And.intro hR2 (And.intro hg2 (And.intro hB1 (And.intro hg1 hR1))))
    clear hR2 hg2 hB1 hg1 hR1 hcs hfz
    go_wp2
    go_ret
    obtain ⟨hR2, hg2, hB1, hg1, hR1⟩ := HV.out
    exact ⟨rfl, hR2, hB1.grown hg2 (Nat.le_trans HQ.out.2.2.1 hg1.size) (fun k hk => by injection hk with hk; subst hk; exact Kd.S_base hR1 _ (by simp [Value.ownBlock])), ⟨hg2.os.trans hg1.os, hg2.tape.trans hg1.tape, hg2.output.trans hg1.output, Nat.le_trans hg1.size hg2.size, fun k hk hne => (hg2.block k (Nat.lt_of_lt_of_le hk hg1.size) hne).trans (hg1.block k hk hne)⟩⟩
  · exact AllReadyH.nil
end Go.Proofs.Ytjcihhkeehjgdaa
