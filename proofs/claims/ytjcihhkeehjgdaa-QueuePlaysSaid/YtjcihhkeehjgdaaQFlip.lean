/- queue.Flip. -/
import Derived.Test.YtjcihhkeehjgdaaQFirst
namespace Go.Proofs.Ytjcihhkeehjgdaa
open Go.RowKit Go.Proofs.YtjcihhkeehjgdaaW.PrintWords SumPlain
set_option linter.unusedVariables false
set_option linter.unusedSimpArgs false
attribute [local go_sem] setCell_drewN alloc_drewN
theorem grown_set (w : World) (g i : Nat) (u : Value) : w.grownBy (w.setCell ⟨g, i, none⟩ u) (some g) :=
  ⟨rfl, rfl, rfl, by simp [World.setCell], fun k _ hne => Below.heap_setCell w ⟨g, i, none⟩ u k (fun e => hne (by rw [e]))⟩
set_option maxHeartbeats 1000000 in
theorem flip_far (i bit : Int) (w : World) (base : Nat) (ok : Nat → Prop) (g : Nat) (L : List (Int × List Int)) (d : Int) (hQ : QS base ok w g L d) (hi : i < 0 ∨ (L.length : Int) ≤ i) :
    Calls Try.prog 27 #[.pointer (some ⟨g, 0, none⟩), .int .i64 i, .int .i64 bit] w fun e w' => e = .returned (.bool false) ∧ w = w' := by
  have hu := Try.underlying38
  obtain ⟨v, hq, hR⟩ := hQ
  obtain ⟨A0, c0, rfl, hle0, hC0⟩ := Kd.S_reads hR
  have hmxN : L.length ≤ 9223372036854775807 := Kd.C_max hC0
  generalize L.length = N at *
  have HP := Aside0.mk (show w.cell? ⟨g, 0, none⟩ = some (.slice A0 N c0) from (blk_cell hq 0).trans rfl)
  have HD := Aside0.mk (show decide (0 ≤ i ∧ i < (N : Int)) = false from decide_eq_false (by omega))
  have HNm := Aside0.mk hmxN
  clear hq hR hC0 hi hmxN
  go_enter Try.func27, Try.ntmps27
  go_wp2_with fail
  refine (is_any i _ g A0 N c0 HNm.out HP.out).mono ?_
  rintro e w1 ⟨rfl, rfl⟩
  rw [HD.out]
  go_wp2
  go_ret
  exact ⟨rfl, rfl⟩
set_option maxHeartbeats 1000000 in
theorem flip_neg (i : Nat) (bit : Int) (w : World) (base : Nat) (ok : Nat → Prop) (g : Nat) (L : List (Int × List Int)) (d : Int) (hQ : QS base ok w g L d) (hi : i < L.length) (hb : bit < 0) :
    Calls Try.prog 27 #[.pointer (some ⟨g, 0, none⟩), .int .i64 (i : Int), .int .i64 bit] w fun e w' => e = .returned (.bool false) ∧ w = w' := by
  have hu := Try.underlying38
  obtain ⟨v, hq, hR⟩ := hQ
  obtain ⟨A0, c0, rfl, hle0, hC0⟩ := Kd.S_reads hR
  have hmxN : L.length ≤ 9223372036854775807 := Kd.C_max hC0
  generalize L.length = N at *
  have HP := Aside0.mk (show w.cell? ⟨g, 0, none⟩ = some (.slice A0 N c0) from (blk_cell hq 0).trans rfl)
  have HNm := Aside0.mk hmxN
  clear hq hR hC0 hmxN
  go_enter Try.func27, Try.ntmps27
  go_wp2_with fail
  refine (is_any (i : Int) _ g A0 N c0 HNm.out HP.out).mono ?_
  rintro e w1 ⟨rfl, rfl⟩
  rw [decide_eq_true (show (0 : Int) ≤ (i : Int) ∧ (i : Int) < (N : Int) by omega)]
  go_wp2
  go_ret
  exact ⟨rfl, rfl⟩
set_option maxHeartbeats 2000000 in
set_option maxRecDepth 100000 in
theorem flip_past (i bit : Nat) (p : Int) (l : List Int) (w : World) (base : Nat) (ok : Nat → Prop) (g : Nat) (L : List (Int × List Int)) (d : Int) (hQ : QS base ok w g L d) (hi : i < L.length) (hL : L.length ≤ 1000000) (he : L.getD i (0, []) = (p, l)) (hb : l.length ≤ bit / 8) (hb2 : bit ≤ 1000000) :
    Calls Try.prog 27 #[.pointer (some ⟨g, 0, none⟩), .int .i64 (i : Int), .int .i64 (bit : Int)] w fun e w' => e = .returned (.bool false) ∧ w = w' := by
  have hu := Try.underlying38
  have hu2 := Try.underlying42
  obtain ⟨v, hq, hR⟩ := hQ
  obtain ⟨h, c0, rfl, hh0, hhw, _⟩ := Kd.S_form hR (by omega)
  have hle0 := (Kd.S_reads' hR).2.1
  have hel := Kd.S_borrow hR (0, []) (i : Int) (by omega) (by omega)
  rw [show (i : Int).toNat = i by omega, he] at hel
  obtain ⟨oki, cs, hcl, ⟨x0, x1, rfl, hx0, u, rfl, hRu⟩, hcc, hoki, hback⟩ := hel
  have hx0' : x0 = [.int .i64 p] := hx0
  subst hx0'
  have e0 := hcc 0 (.int .i64 p) rfl
  have e1 := hcc 1 u rfl
  have esz : (Kd.pair (Kd.int .i64) (Kd.slice 5 (Kd.int .u8))).sz = 2 := rfl
  rw [esz] at e0 e1
  rw [Nat.add_zero] at e0
  have hadd : ∀ j : Nat, (⟨h, 0, none⟩ : Addr).add j = ⟨h, j, none⟩ := fun j => by cases j <;> simp [Addr.add]
  rw [hadd] at e0 e1
  clear hadd
  obtain ⟨Au, cu, rfl⟩ := Kd.R_slice hRu
  generalize l.length = nu at *
  generalize L.length = N at *
  have p0 := (blk_cell hq 0).trans rfl
  clear hq hR hcc hback hRu hx0 hcl hoki hh0 hhw he
  go_enter Try.func27, Try.ntmps27
  go_wp2_with fail
  refine (is_any (i : Int) _ g (some ⟨h, 0, none⟩) N c0 (by omega) p0).mono ?_
  rintro e w1 ⟨rfl, rfl⟩
  rw [decide_eq_true (show (0 : Int) ≤ (i : Int) ∧ (i : Int) < (N : Int) by omega)]
  go_wp2
  go_ret
  exact ⟨rfl, rfl⟩
set_option maxHeartbeats 4000000 in
set_option maxRecDepth 100000 in
theorem flip_in_fr (i bit : Nat) (p : Int) (l : List Int) (w w0 : World) (base : Nat) (ok : Nat → Prop) (g : Nat) (L : List (Int × List Int)) (d : Int) (hQ : QS base ok w g L d) (hB : Below base w0 w) (hbase : base ≤ w.heap.size) (hi : i < L.length) (hL : L.length ≤ 1000000) (he : L.getD i (0, []) = (p, l)) (hb : bit / 8 < l.length) (hb2 : bit ≤ 1000000) (hl : l.length ≤ 1000000) :
    Calls Try.prog 27 #[.pointer (some ⟨g, 0, none⟩), .int .i64 (i : Int), .int .i64 (bit : Int)] w fun e w' => e = .returned (.bool true) ∧ QS base ok w' g (L.set i (p, l.set (bit / 8) (flip (l.getD (bit / 8) 0) (7 - bit % 8)))) d ∧ Below base w0 w' ∧ w.heap.size ≤ w'.heap.size ∧ FrQ ok g w w' := by
  have hu := Try.underlying38
  have hu2 := Try.underlying42
  obtain ⟨v, hq, hR⟩ := hQ
  obtain ⟨h, c0, rfl, hh0, hhw, _⟩ := Kd.S_form hR (by omega)
  have hle0 := (Kd.S_reads' hR).2.1
  have hel := Kd.S_borrow hR (0, []) (i : Int) (by omega) (by omega)
  rw [show (i : Int).toNat = i by omega, he] at hel
  obtain ⟨oki, cs, hcl, ⟨x0, x1, rfl, hx0, u, rfl, hRu⟩, hcc, hoki, hback⟩ := hel
  have hx0' : x0 = [.int .i64 p] := hx0
  subst hx0'
  have e0 := hcc 0 (.int .i64 p) rfl
  have e1 := hcc 1 u rfl
  have esz : (Kd.pair (Kd.int .i64) (Kd.slice 5 (Kd.int .u8))).sz = 2 := rfl
  rw [esz] at e0 e1
  rw [Nat.add_zero] at e0
  have hadd : ∀ j : Nat, (⟨h, 0, none⟩ : Addr).add j = ⟨h, j, none⟩ := fun j => by cases j <;> simp [Addr.add]
  rw [hadd] at e0 e1
  clear hadd
  obtain ⟨bu, cu, rfl, hbu⟩ := R_form hRu (show 0 < l.length by omega)
  have hlu := (R_C hRu).1
  obtain ⟨r0, f0⟩ := R_nat hRu rfl (bit / 8) hb
  have hown : oki bu := hRu.1 bu (by simp [Value.ownBlock])
  have HOK := Aside0.mk (hoki bu hown).1
  have hneg : some g ≠ (Value.slice (some ⟨bu, 0, none⟩) l.length cu).ownBlock := Kd.R_ne hRu hq (by decide)
  have p0 := (blk_cell hq 0).trans rfl
  obtain ⟨N, hN⟩ : ∃ N, N = L.length := ⟨_, rfl⟩
  obtain ⟨nu, hnu⟩ : ∃ nu, nu = l.length := ⟨_, rfl⟩
  rw [← hN] at p0 hi hle0 hL
  rw [← hnu] at e1 hlu hb hl
  obtain ⟨tt, htt⟩ : ∃ tt : Nat, tt = 7 - bit % 8 := ⟨_, rfl⟩
  have hti : (7 : Int) - ((bit : Int) % 8) = (tt : Int) := by omega
  have HTI := Aside0.mk hti
  clear hti
  generalize hbv : l.getD (bit / 8) 0 = bv at *
  have HQ := Aside0.mk (And.intro hq (And.intro hR (And.intro hB (And.intro hbase (And.intro hRu (And.intro hneg (And.intro hown (And.intro (fun w1 row x' h1 h2 h3 => @hback w1 row x' h1 h2 h3) (And.intro hN (And.intro hnu htt))))))))))
  clear hq hR hcc hback hRu hx0 hcl hoki hh0 hhw he hB hbase hN hnu hneg hown hbu hbv
  go_enter Try.func27, Try.ntmps27
  go_wp2_with fail
  refine (is_any (i : Int) _ g (some ⟨h, 0, none⟩) N c0 (by omega) p0).mono ?_
  rintro e w1 ⟨rfl, rfl⟩
  rw [decide_eq_true (show (0 : Int) ≤ (i : Int) ∧ (i : Int) < (N : Int) by omega)]
  go_wp2_with fail
  obtain ⟨qb, hqb⟩ : ∃ qb, qb = bit / 8 := ⟨_, rfl⟩
  obtain ⟨rb, hrb⟩ : ∃ rb, rb = bit % 8 := ⟨_, rfl⟩
  have hw1 : IntKind.i64.wrap ((bit : Int) / 8) = (qb : Int) := by rw [IntWalk.i64_in _ (by omega)]; omega
  have ht1 : (bit : Int).tmod 8 = (rb : Int) := by rw [Int.tmod_eq_emod_of_nonneg (by omega)]; omega
  have hw2 : IntKind.i64.wrap (7 - (rb : Int)) = (tt : Int) := by rw [IntWalk.i64_in _ (by omega)]; omega
  rw [← hqb] at r0 f0 hb
  have HB := Aside0.mk (And.intro hqb hrb)
  clear hqb hrb
  refine wp_region_held_drew (S := (fun _ => True)) (by kernel_rfl) trivial (fun hHeld => ?_)
  refine wpAnyH_take (i := 0) (v := ?_) rfl (by kernel_rfl) (by kernel_rfl) (by kernel_rfl) (fun _ _ _ h => h) (Or.inl ⟨by rfl, ?_⟩) trivial ?_
  rotate_left 1
  · intro w hSw; (try dsimp only at hSw); go_simp; try with_reducible rfl
  try simp only [Act.put, List.getElem_toArray, List.getElem_cons_zero, List.getElem_cons_succ, List.setIfInBounds_toArray, List.set_cons_zero, List.set_cons_succ]
  refine wpAnyH_take (i := 1) (v := ?_) rfl (by kernel_rfl) (by kernel_rfl) (by kernel_rfl) (fun _ _ _ h => h) (Or.inl ⟨by rfl, ?_⟩) trivial ?_
  rotate_left 1
  · intro w hSw; (try dsimp only at hSw); go_simp; try with_reducible rfl
  try simp only [Act.put, List.getElem_toArray, List.getElem_cons_zero, List.getElem_cons_succ, List.setIfInBounds_toArray, List.set_cons_zero, List.set_cons_succ]
  refine wpAnyH_take (i := 2) (v := ?_) rfl (by kernel_rfl) (by kernel_rfl) (by kernel_rfl) (fun _ _ _ h => h) (Or.inl ⟨by rfl, ?_⟩) trivial ?_
  rotate_left 1
  · intro w hSw; (try dsimp only at hSw); go_simp; try with_reducible rfl
  try simp only [Act.put, List.getElem_toArray, List.getElem_cons_zero, List.getElem_cons_succ, List.setIfInBounds_toArray, List.set_cons_zero, List.set_cons_succ]
  refine wpAnyH_take (i := 4) (v := ?_) rfl (by kernel_rfl) (by kernel_rfl) (by kernel_rfl) (fun _ _ _ h => h) (Or.inl ⟨by rfl, ?_⟩) trivial ?_
  rotate_left 1
  · intro w hSw; (try dsimp only at hSw); go_simp; try with_reducible rfl
  try simp only [Act.put, List.getElem_toArray, List.getElem_cons_zero, List.getElem_cons_succ, List.setIfInBounds_toArray, List.set_cons_zero, List.set_cons_succ]
  refine wpAnyH_take (i := 8) (v := ?_) rfl (by kernel_rfl) (by kernel_rfl) (by kernel_rfl) (fun _ _ _ h => h) (Or.inl ⟨by rfl, ?_⟩) trivial ?_
  rotate_left 1
  · intro w hSw; (try dsimp only at hSw); go_simp; try with_reducible rfl
  try simp only [Act.put, List.getElem_toArray, List.getElem_cons_zero, List.getElem_cons_succ, List.setIfInBounds_toArray, List.set_cons_zero, List.set_cons_succ]
  refine wpAnyH_take (i := 9) (v := ?_) rfl (by kernel_rfl) (by kernel_rfl) (by kernel_rfl) (fun _ _ _ h => h) (Or.inl ⟨by rfl, ?_⟩) trivial ?_
  rotate_left 1
  · intro w hSw; (try dsimp only at hSw); go_simp; try with_reducible rfl
  try simp only [Act.put, List.getElem_toArray, List.getElem_cons_zero, List.getElem_cons_succ, List.setIfInBounds_toArray, List.set_cons_zero, List.set_cons_succ]
  refine wpAnyH_take (i := 12) (v := ?_) rfl (by kernel_rfl) (by kernel_rfl) (by kernel_rfl) (fun _ _ _ h => h) (Or.inl ⟨by rfl, ?_⟩) trivial ?_
  rotate_left 1
  · intro w hSw; (try dsimp only at hSw); go_simp; try with_reducible rfl
  try simp only [Act.put, List.getElem_toArray, List.getElem_cons_zero, List.getElem_cons_succ, List.setIfInBounds_toArray, List.set_cons_zero, List.set_cons_succ]
  refine wpAnyH_take (i := 13) (v := ?_) rfl (by kernel_rfl) (by kernel_rfl) (by kernel_rfl) (fun _ _ _ h => h) (Or.inl ⟨by rfl, ?_⟩) trivial ?_
  rotate_left 1
  · intro w hSw; (try dsimp only at hSw); go_simp; try with_reducible rfl
  try simp only [Act.put, List.getElem_toArray, List.getElem_cons_zero, List.getElem_cons_succ, List.setIfInBounds_toArray, List.set_cons_zero, List.set_cons_succ]
  refine wpAnyH_take (i := 14) (v := ?_) rfl (by kernel_rfl) (by kernel_rfl) (by kernel_rfl) (fun _ _ _ h => h) (Or.inl ⟨by rfl, ?_⟩) trivial ?_
  rotate_left 1
  · intro w hSw; (try dsimp only at hSw); go_simp; try with_reducible rfl
  try simp only [Act.put, List.getElem_toArray, List.getElem_cons_zero, List.getElem_cons_succ, List.setIfInBounds_toArray, List.set_cons_zero, List.set_cons_succ]
  refine wpAnyH_take (i := 15) (v := ?_) rfl (by kernel_rfl) (by kernel_rfl) (by kernel_rfl) (fun _ _ _ h => h) (Or.inl ⟨by rfl, ?_⟩) trivial ?_
  rotate_left 1
  · intro w hSw; (try dsimp only at hSw); go_simp; try with_reducible rfl
  try simp only [Act.put, List.getElem_toArray, List.getElem_cons_zero, List.getElem_cons_succ, List.setIfInBounds_toArray, List.set_cons_zero, List.set_cons_succ]
  refine wpAnyH_ready (rs := [3]) (by kernel_rfl) (by simp) ?_
  refine AllReadyH.cons rfl (fun K hK => ?_) ?_
  · go_simp
    refine hK.out _ _ trivial (fun hHeld => ?_)
    clear hK K hHeld
    try simp only [Act.put, List.getElem_toArray, List.getElem_cons_zero, List.getElem_cons_succ, List.setIfInBounds_toArray, List.set_cons_zero, List.set_cons_succ]
    refine wpAnyH_take (i := 5) (v := ?_) rfl (by kernel_rfl) (by kernel_rfl) (by kernel_rfl) (fun _ _ _ h => h) (Or.inl ⟨by rfl, ?_⟩) trivial ?_
    rotate_left 1
    · intro w hSw; (try dsimp only at hSw); go_simp; try with_reducible rfl
    try simp only [Act.put, List.getElem_toArray, List.getElem_cons_zero, List.getElem_cons_succ, List.setIfInBounds_toArray, List.set_cons_zero, List.set_cons_succ]
    refine wpAnyH_take (i := 6) (v := ?_) rfl (by kernel_rfl) (by kernel_rfl) (by kernel_rfl) (fun _ _ _ h => h) (Or.inl ⟨by rfl, ?_⟩) trivial ?_
    rotate_left 1
    · intro w hSw; (try dsimp only at hSw); go_simp; try with_reducible rfl
    try simp only [Act.put, List.getElem_toArray, List.getElem_cons_zero, List.getElem_cons_succ, List.setIfInBounds_toArray, List.set_cons_zero, List.set_cons_succ]
    refine wpAnyH_ready (rs := [7]) (by kernel_rfl) (by simp) ?_
    refine AllReadyH.cons rfl (fun K hK => ?_) ?_
    · go_simp
      refine hK.out _ _ trivial (fun hHeld => ?_)
      clear hK K hHeld
      try simp only [Act.put, List.getElem_toArray, List.getElem_cons_zero, List.getElem_cons_succ, List.setIfInBounds_toArray, List.set_cons_zero, List.set_cons_succ]
      refine wpAnyH_take (i := 10) (v := ?_) rfl (by kernel_rfl) (by kernel_rfl) (by kernel_rfl) (fun _ _ _ h => h) (Or.inl ⟨by rfl, ?_⟩) trivial ?_
      rotate_left 1
      · intro w hSw; (try dsimp only at hSw); go_simp; try with_reducible rfl
      try simp only [Act.put, List.getElem_toArray, List.getElem_cons_zero, List.getElem_cons_succ, List.setIfInBounds_toArray, List.set_cons_zero, List.set_cons_succ]
      refine wpAnyH_ready (rs := [11]) (by kernel_rfl) (by simp) ?_
      refine AllReadyH.cons rfl (fun K hK => ?_) ?_
      · go_simp
        refine hK.out _ _ trivial (fun hHeld => ?_)
        clear hK K hHeld
        try simp only [Act.put, List.getElem_toArray, List.getElem_cons_zero, List.getElem_cons_succ, List.setIfInBounds_toArray, List.set_cons_zero, List.set_cons_succ]
        refine wpAnyH_take (i := 16) (v := ?_) rfl (by kernel_rfl) (by kernel_rfl) (by kernel_rfl) (fun _ _ _ h => h) (Or.inl ⟨by rfl, ?_⟩) trivial ?_
        rotate_left 1
        · intro w hSw; (try dsimp only at hSw); go_simp; try with_reducible rfl
        try simp only [Act.put, List.getElem_toArray, List.getElem_cons_zero, List.getElem_cons_succ, List.setIfInBounds_toArray, List.set_cons_zero, List.set_cons_succ]
        refine wpAnyH_take (i := 17) (v := ?_) rfl (by kernel_rfl) (by kernel_rfl) (by kernel_rfl) (fun _ _ _ h => h) (Or.inl ⟨by rfl, ?_⟩) trivial ?_
        rotate_left 1
        · intro w hSw; (try dsimp only at hSw); go_simp; try with_reducible rfl
        try simp only [Act.put, List.getElem_toArray, List.getElem_cons_zero, List.getElem_cons_succ, List.setIfInBounds_toArray, List.set_cons_zero, List.set_cons_succ]
        refine wpAnyH_ready (rs := [18]) (by kernel_rfl) (by simp) ?_
        refine AllReadyH.cons rfl (fun K hK => ?_) ?_
        · go_simp
          refine hK.out _ _ trivial (fun hHeld => ?_)
          clear hK K hHeld
          try simp only [Act.put, List.getElem_toArray, List.getElem_cons_zero, List.getElem_cons_succ, List.setIfInBounds_toArray, List.set_cons_zero, List.set_cons_succ]
          refine wpAnyH_done (by kernel_rfl) ?_ _
          have hfl : bits BinOp.xor IntKind.u8 bv (IntKind.u8.wrap (2 ^ (7 - bit % 8))) = flip bv (7 - bit % 8) := by unfold flip; rw [show IntKind.u8.wrap (2 ^ (7 - bit % 8)) = 2 ^ (7 - bit % 8) % 256 from by simp [IntKind.wrap, IntKind.signed, IntKind.bits]]
          go_wp2
          go_ret
          obtain ⟨hq, hR, hB, hbase, hRu, hneg, hown, hback, hN, hnu, htt⟩ := HQ.out
          obtain ⟨⟨hqb, hrb⟩⟩ := HB
          subst hqb
          have hgb : g ≠ bu := fun e => hneg (by rw [e]; rfl)
          have hbb : base ≤ bu := Kd.R_base hRu bu rfl
          have hS := hback (w.setCell ⟨bu, bit / 8, none⟩ (.int .u8 (flip bv (7 - bit % 8)))) (some bu) (p, l.set (bit / 8) (flip bv (7 - bit % 8))) (grown_set w bu (bit / 8) _) (fun k hk => by injection hk with hk; rw [← hk]; exact hown) ⟨[.int .i64 p], [_], rfl, rfl, _, rfl, R_putn hRu rfl (bit / 8) (flip bv (7 - bit % 8))⟩
          exact ⟨rfl, ⟨_, (show _ = _ from blk_far hq (p := ⟨bu, bit / 8, none⟩) hgb _), Kd.S_drew hS⟩, below_drew (Below.setCell hB hbb _), by simp [World.setCell], fun k hk hkg hnk => Below.heap_setCell w ⟨bu, bit / 8, none⟩ _ k (fun e => hnk (by rw [show k = bu from e]; exact HOK.out))⟩
        exact AllReadyH.nil
      exact AllReadyH.nil
    exact AllReadyH.nil
  exact AllReadyH.nil
theorem flip_in (i bit : Nat) (p : Int) (l : List Int) (w w0 : World) (base : Nat) (ok : Nat → Prop) (g : Nat) (L : List (Int × List Int)) (d : Int) (hQ : QS base ok w g L d) (hB : Below base w0 w) (hbase : base ≤ w.heap.size) (hi : i < L.length) (hL : L.length ≤ 1000000) (he : L.getD i (0, []) = (p, l)) (hb : bit / 8 < l.length) (hb2 : bit ≤ 1000000) (hl : l.length ≤ 1000000) :
    Calls Try.prog 27 #[.pointer (some ⟨g, 0, none⟩), .int .i64 (i : Int), .int .i64 (bit : Int)] w fun e w' => e = .returned (.bool true) ∧ QS base ok w' g (L.set i (p, l.set (bit / 8) (flip (l.getD (bit / 8) 0) (7 - bit % 8)))) d ∧ Below base w0 w' ∧ w.heap.size ≤ w'.heap.size :=
  (flip_in_fr i bit p l w w0 base ok g L d hQ hB hbase hi hL he hb hb2 hl).mono (fun e w' h => ⟨h.1, h.2.1, h.2.2.1, h.2.2.2.1⟩)
end Go.Proofs.Ytjcihhkeehjgdaa
