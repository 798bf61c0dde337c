/- queue.Put. -/
import Derived.Test.YtjcihhkeehjgdaaQItem
import Derived.Test.YtjcihhkeehjgdaaWApart
namespace Go.Proofs.Ytjcihhkeehjgdaa
open Go.RowKit Go.Proofs.YtjcihhkeehjgdaaW.PrintWords SumPlain
set_option linter.unusedVariables false
set_option linter.unusedSimpArgs false
attribute [local go_sem] setCell_drewN alloc_drewN
abbrev kIt : Kd (Int × List Int) := Kd.pair (Kd.int .i64) (Kd.slice 5 (Kd.int .u8))
theorem Try.infoIt : (Try.prog.info? 42).map (fun i => (i.zero, i.size, i.bytes)) = some (some (.agg #[.int .i64 0, .slice none 0 0]), 2, 32) := by kernel_rfl
/-- A queue that is the call's own. -/
structure QS (base : Nat) (ok : Nat → Prop) (w : World) (g : Nat) (L : List (Int × List Int)) (d : Int) : Prop where
  ex : ∃ v, w.heap[g]? = some (.cells #[v, .int .i64 d] 38 (0, 0)) ∧ Kd.S kIt 42 w base ok v L
theorem QS.below {base : Nat} {ok : Nat → Prop} {w w' : World} {g : Nat} {L : List (Int × List Int)} {d : Int} (h : QS base ok w g L d) (hb : Below w.heap.size w w') : QS base ok w' g L d := by
  obtain ⟨v, hg, hR⟩ := h
  exact ⟨v, blk_below hg hb, Kd.S_below hR hb⟩
/-- What the queue does not own stays. -/
def FrQ (ok : Nat → Prop) (g : Nat) (w w' : World) : Prop := ∀ k, k < w.heap.size → k ≠ g → ¬ ok k → w'.heap[k]? = w.heap[k]?
set_option maxHeartbeats 1000000 in
set_option maxRecDepth 100000 in
theorem put_full_fr (p : Int) (A : Option Addr) (n c : Nat) (w w0 : World) (base : Nat) (ok : Nat → Prop) (g : Nat) (L : List (Int × List Int)) (d : Int) (hQ : QS base ok w g L d) (hB : Below base w0 w) (hg : base ≤ g) (hL : 4096 ≤ L.length) (hd0 : 0 ≤ d) (hd : d ≤ 1000000) :
    Calls Try.prog 21 #[.pointer (some ⟨g, 0, none⟩), .int .i64 p, .slice A n c] w fun e w' => e = .returned (.bool false) ∧ QS base ok w' g L (d + 1) ∧ Below base w0 w' ∧ w.heap.size ≤ w'.heap.size ∧ FrQ ok g w w' := by
  have hu := Try.underlying38
  obtain ⟨v, hq, hR⟩ := hQ
  obtain ⟨A0, c0, rfl, hle0, hC0⟩ := Kd.S_reads hR
  have hlen : L.length ≤ 9223372036854775807 := Kd.C_max hC0
  generalize hN : L.length = N at *
  have p0 := (blk_cell hq 0).trans rfl
  have p1 := (blk_cell hq 1).trans rfl
  have fq := blk_frozen hq
  have HQ := Aside0.mk (And.intro hq (And.intro hR (And.intro hB hg)))
  clear hq hR hB hC0 hN hg
  go_enter Try.func21, Try.ntmps21
  go_wp2
  go_ret
  obtain ⟨hq, hR, hB, hg⟩ := HQ.out
  exact ⟨rfl, ⟨_, (blk_set hq 1 _).trans rfl, Kd.S_set hR hq (by decide) 1 _⟩, Below.setCell hB hg _, by simp [World.setCell], fun k hk hkg _ => Below.heap_setCell w ⟨g, 1, none⟩ _ k hkg⟩
theorem put_full (p : Int) (A : Option Addr) (n c : Nat) (w w0 : World) (base : Nat) (ok : Nat → Prop) (g : Nat) (L : List (Int × List Int)) (d : Int) (hQ : QS base ok w g L d) (hB : Below base w0 w) (hg : base ≤ g) (hL : 4096 ≤ L.length) (hd0 : 0 ≤ d) (hd : d ≤ 1000000) :
    Calls Try.prog 21 #[.pointer (some ⟨g, 0, none⟩), .int .i64 p, .slice A n c] w fun e w' => e = .returned (.bool false) ∧ QS base ok w' g L (d + 1) ∧ Below base w0 w' ∧ w.heap.size ≤ w'.heap.size :=
  (put_full_fr p A n c w w0 base ok g L d hQ hB hg hL hd0 hd).mono (fun e w' h => ⟨h.1, h.2.1, h.2.2.1, h.2.2.2.1⟩)
set_option maxHeartbeats 4000000 in
set_option maxRecDepth 100000 in
theorem put_room_fr (p : Int) (A : Option Addr) (n c : Nat) (l : List Int) (w w0 : World) (base : Nat) (ok : Nat → Prop) (g : Nat) (L : List (Int × List Int)) (d : Int) (hQ : QS base ok w g L d) (hC : Kd.C (Kd.int .u8) w A n l) (hl : l.length ≤ 1000000) (hB : Below base w0 w) (hbase : base ≤ w.heap.size) (hg : base ≤ g) (hL : L.length < 4096) (hfresh : ∀ k, w.heap.size ≤ k → ok k) :
    Calls Try.prog 21 #[.pointer (some ⟨g, 0, none⟩), .int .i64 p, .slice A n c] w fun e w' => e = .returned (.bool true) ∧ QS base ok w' g (L ++ [(p, l)]) d ∧ Below base w0 w' ∧ w.heap.size ≤ w'.heap.size ∧ FrQ ok g w w' := by
  have hu := Try.underlying38
  have hu2 := Try.underlying42
  obtain ⟨v, hq, hR⟩ := hQ
  obtain ⟨A0, c0, rfl, hle0, hC0⟩ := Kd.S_reads hR
  obtain ⟨N, hN⟩ : ∃ N, N = L.length := ⟨_, rfl⟩
  rw [← hN] at hq hR hle0 hL
  have HN := Aside0.mk hN
  have p0 := (blk_cell hq 0).trans rfl
  have fq := blk_frozen hq
  have hgw := blk_lt hq
  have HQ := Aside0.mk (And.intro hq (And.intro hR (And.intro hB (And.intro hbase (And.intro hg (And.intro hfresh (And.intro hC hl)))))))
  clear hq hR hB hC0 hN hg hfresh hC hl hbase
  go_enter Try.func21, Try.ntmps21
  go_wp2_with fail
  refine wp_region_held_drew (S := (fun _ => True)) (by kernel_rfl) trivial (fun hHeld => ?_)
  refine wpAnyH_take (i := 0) (v := ?_) rfl (by kernel_rfl) (by kernel_rfl) (by kernel_rfl) (fun _ _ _ h => h) (Or.inl ⟨by rfl, ?_⟩) trivial ?_
  rotate_left 1
  · intro w hSw; (try dsimp only at hSw); go_simp; try with_reducible rfl
  try simp only [Act.put, List.getElem_toArray, List.getElem_cons_zero, List.getElem_cons_succ, List.setIfInBounds_toArray, List.set_cons_zero, List.set_cons_succ]
  refine wpAnyH_take (i := 1) (v := ?_) rfl (by kernel_rfl) (by kernel_rfl) (by kernel_rfl) (fun _ _ _ h => h) (Or.inl ⟨by rfl, ?_⟩) trivial ?_
  rotate_left 1
  · intro w hSw; (try dsimp only at hSw); go_simp; try with_reducible rfl
  try simp only [Act.put, List.getElem_toArray, List.getElem_cons_zero, List.getElem_cons_succ, List.setIfInBounds_toArray, List.set_cons_zero, List.set_cons_succ]
  refine wpAnyH_take (i := 2) (v := ?_) rfl (by kernel_rfl) (by kernel_rfl) (by kernel_rfl) (fun _ _ _ h => h) (Or.inl ⟨by rfl, ?_⟩) trivial ?_
  rotate_left 1
  · intro w hSw; (try dsimp only at hSw); go_simp; try with_reducible rfl
  try simp only [Act.put, List.getElem_toArray, List.getElem_cons_zero, List.getElem_cons_succ, List.setIfInBounds_toArray, List.set_cons_zero, List.set_cons_succ]
  refine wpAnyH_take (i := 3) (v := ?_) rfl (by kernel_rfl) (by kernel_rfl) (by kernel_rfl) (fun _ _ _ h => h) (Or.inl ⟨by rfl, ?_⟩) trivial ?_
  rotate_left 1
  · intro w hSw; (try dsimp only at hSw); go_simp; try with_reducible rfl
  try simp only [Act.put, List.getElem_toArray, List.getElem_cons_zero, List.getElem_cons_succ, List.setIfInBounds_toArray, List.set_cons_zero, List.set_cons_succ]
  refine wpAnyH_take (i := 5) (v := ?_) rfl (by kernel_rfl) (by kernel_rfl) (by kernel_rfl) (fun _ _ _ h => h) (Or.inl ⟨by rfl, ?_⟩) trivial ?_
  rotate_left 1
  · intro w hSw; (try dsimp only at hSw); go_simp; try with_reducible rfl
  try simp only [Act.put, List.getElem_toArray, List.getElem_cons_zero, List.getElem_cons_succ, List.setIfInBounds_toArray, List.set_cons_zero, List.set_cons_succ]
  refine wpAnyH_take (i := 6) (v := ?_) rfl (by kernel_rfl) (by kernel_rfl) (by kernel_rfl) (fun _ _ _ h => h) (Or.inl ⟨by rfl, ?_⟩) trivial ?_
  rotate_left 1
  · intro w hSw; (try dsimp only at hSw); go_simp; try with_reducible rfl
  try simp only [Act.put, List.getElem_toArray, List.getElem_cons_zero, List.getElem_cons_succ, List.setIfInBounds_toArray, List.set_cons_zero, List.set_cons_succ]
  refine wpAnyH_take (i := 7) (v := ?_) rfl (by kernel_rfl) (by kernel_rfl) (by kernel_rfl) (fun _ _ _ h => h) (Or.inl ⟨by rfl, ?_⟩) trivial ?_
  rotate_left 1
  · intro w hSw; (try dsimp only at hSw); go_simp; try with_reducible rfl
  try simp only [Act.put, List.getElem_toArray, List.getElem_cons_zero, List.getElem_cons_succ, List.setIfInBounds_toArray, List.set_cons_zero, List.set_cons_succ]
  refine wpAnyH_ready (rs := [4, 8]) (by kernel_rfl) (by simp) ?_
  refine AllReadyH.cons rfl (fun K hK => ?_) ?_
  · go_simp
    refine hK.out _ _ trivial (fun hHeld => ?_)
    clear hK K hHeld
    try simp only [Act.put, List.getElem_toArray, List.getElem_cons_zero, List.getElem_cons_succ, List.setIfInBounds_toArray, List.set_cons_zero, List.set_cons_succ]
    refine wpAnyH_ready (rs := [8]) (by kernel_rfl) (by simp) ?_
    refine AllReadyH.cons rfl (fun K hK => ?_) ?_
    · go_simp
      refine (own_any p A n c l _ (Kd.C_drew HQ.out.2.2.2.2.2.2.1) HQ.out.2.2.2.2.2.2.2).mono ?_
      rintro e wb ⟨u, rfl, hRu, hbu⟩
      have hkb : Below w.heap.size w wb := reach_to (below_drew (Below.refl _ _)) (Nat.le_refl _) hbu
      have k0 := (blk_cell (blk_below HQ.out.1 hkb) 0).trans rfl
      have HB := Aside0.mk (And.intro hRu hkb)
      clear hRu hbu hkb
      refine hK.out _ _ trivial (fun hHeld => ?_)
      clear hK K hHeld
      try simp only [Act.put, List.getElem_toArray, List.getElem_cons_zero, List.getElem_cons_succ, List.setIfInBounds_toArray, List.set_cons_zero, List.set_cons_succ]
      refine wpAnyH_ready (rs := [9]) (by kernel_rfl) (by simp) ?_
      refine AllReadyH.cons rfl (fun K hK => ?_) ?_
      · go_simp
        have k1 := (blk_cell (blk_below (blk_below HQ.out.1 HB.out.2) (below_alloc (Below.refl _ _) (.cells #[.int .i64 p, u] 42))) 0).trans rfl
        refine hK.out _ _ trivial (fun hHeld => ?_)
        clear hK K hHeld
        try simp only [Act.put, List.getElem_toArray, List.getElem_cons_zero, List.getElem_cons_succ, List.setIfInBounds_toArray, List.set_cons_zero, List.set_cons_succ]
        have hqb := blk_below HQ.out.1 HB.out.2
        have hRb := Kd.S_mono (ok' := fun k => ok k ∧ ¬ (ok k ∧ w.heap.size ≤ k)) (Kd.S_below (Kd.S_bound HQ.out.2.1) HB.out.2) (fun k hk => ⟨hk.1, fun h => by have := hk.2.2.1; omega⟩)
        have hne : some g ≠ (Value.slice A0 N c0).ownBlock := Kd.S_ne HQ.out.2.1 HQ.out.1 (by decide)
        have hRu : (Kd.int .u8).R 5 wb base (fun k => ok k ∧ w.heap.size ≤ k) u l := Kd.R_lower (Kd.R_mono (Kd.R_bound HB.out.1) (fun k hk => ⟨HQ.out.2.2.2.2.2.1 k hk.2.1, hk.2.1⟩)) HQ.out.2.2.2.1
        have hBb : Below base w0 wb := HQ.out.2.2.1.trans ⟨HB.out.2.os, HB.out.2.tape, HB.out.2.output, HB.out.2.size, fun i hi => HB.out.2.block i (Nat.lt_of_lt_of_le hi HQ.out.2.2.2.1)⟩
        have hbb : base ≤ wb.heap.size := Nat.le_trans HQ.out.2.2.2.1 HB.out.2.size
        refine wpAnyH_ready (rs := [10]) (by kernel_rfl) (by simp) ?_
        refine AllReadyH.cons rfl (fun K hK => ?_) ?_
        · refine Kd.S_append_step kIt (w0 := w0) base (by rfl) (.tmp 24) (.tmp 29) 36 42 (.agg #[.int .i64 0, .slice none 0 0]) 32 rfl Try.underlying36 Try.infoIt rfl (by decide) (by decide) (.slice A0 N c0) L (p, l) [.int .i64 p, u] ok (fun k => ok k ∧ w.heap.size ≤ k) rfl rfl ⟨[.int .i64 p], [u], rfl, rfl, u, rfl, hRu⟩ (fun k hk => ⟨hk.1, fun he => by have h1 := Kd.S_lt HQ.out.2.1 k he.symm; have h2 := hk.2; omega⟩) (fun k hk => HQ.out.2.2.2.2.2.1 k (Nat.le_trans HB.out.2.size hk)) hRb hBb hbb (by rw [← HN.out]; omega) (fun v1 W1 hR1 hB1 hg1 _ => ?_)
          have hq1 := blk_grown hqb hg1 hne
          obtain ⟨A1, c1, rfl⟩ := Kd.S_slice hR1
          generalize (L ++ [(p, l)]).length = N1 at *
          have hk5 := (blk_cell hq1 0).trans rfl
          have hf5 := blk_frozen hq1
          have hfr : ∀ k, k < w.heap.size → ¬ ok k → W1.heap[k]? = w.heap[k]? := fun k hk hn => (hg1.block k (Nat.lt_of_lt_of_le hk HB.out.2.size) (fun e => hn (HQ.out.2.1.elim fun f hf => hf.1 k e.symm))).trans (HB.out.2.block k hk)
          have HV := Aside0.mk (And.intro hR1 (And.intro hq1 (And.intro hB1 (And.intro (Nat.le_trans HB.out.2.size hg1.size) hfr))))
          clear hfr
          clear hR1 hq1 hB1 hg1 hqb hRb hne hRu hBb hbb
          refine hK.out _ _ trivial (fun hHeld => ?_)
          clear hK K hHeld
          try simp only [Act.put, List.getElem_toArray, List.getElem_cons_zero, List.getElem_cons_succ, List.setIfInBounds_toArray, List.set_cons_zero, List.set_cons_succ]
          refine wpAnyH_take (i := 11) (v := ?_) rfl (by kernel_rfl) (by kernel_rfl) (by kernel_rfl) (fun _ _ _ h => h) (Or.inl ⟨by rfl, ?_⟩) trivial ?_
          rotate_left 1
          · intro w hSw; (try dsimp only at hSw); go_simp; try with_reducible rfl
          try simp only [Act.put, List.getElem_toArray, List.getElem_cons_zero, List.getElem_cons_succ, List.setIfInBounds_toArray, List.set_cons_zero, List.set_cons_succ]
          refine wpAnyH_take (i := 12) (v := ?_) rfl (by kernel_rfl) (by kernel_rfl) (by kernel_rfl) (fun _ _ _ h => h) (Or.inl ⟨by rfl, ?_⟩) trivial ?_
          rotate_left 1
          · intro w hSw; (try dsimp only at hSw); go_simp; try with_reducible rfl
          try simp only [Act.put, List.getElem_toArray, List.getElem_cons_zero, List.getElem_cons_succ, List.setIfInBounds_toArray, List.set_cons_zero, List.set_cons_succ]
          refine wpAnyH_ready (rs := [13]) (by kernel_rfl) (by simp) ?_
          refine AllReadyH.cons rfl (fun K hK => ?_) ?_
          · go_simp
            refine hK.out _ _ trivial (fun hHeld => ?_)
            clear hK K hHeld
            try simp only [Act.put, List.getElem_toArray, List.getElem_cons_zero, List.getElem_cons_succ, List.setIfInBounds_toArray, List.set_cons_zero, List.set_cons_succ]
            refine wpAnyH_done (by kernel_rfl) ?_ _
            go_wp2
            go_ret
            obtain ⟨hR1, hq1, hB1, hs1, hfr⟩ := HV.out
            exact ⟨rfl, ⟨_, (blk_set hq1 0 _).trans rfl, Kd.S_set hR1 hq1 (by decide) 0 _⟩, Below.setCell hB1 HQ.out.2.2.2.2.1 _, by simpa [World.setCell] using hs1, fun k hk hkg hn => (Below.heap_setCell W1 ⟨g, 0, none⟩ _ k hkg).trans (hfr k hk hn)⟩
          · exact AllReadyH.nil
        · exact AllReadyH.nil
      exact AllReadyH.nil
    exact AllReadyH.nil
  refine AllReadyH.cons rfl (fun K hK => ?_) ?_
  · go_simp
    refine (own_any p A n c l _ (Kd.C_drew HQ.out.2.2.2.2.2.2.1) HQ.out.2.2.2.2.2.2.2).mono ?_
    rintro e wb ⟨u, rfl, hRu, hbu⟩
    have hkb : Below w.heap.size w wb := reach_to (below_drew (Below.refl _ _)) (Nat.le_refl _) hbu
    have k0 := (blk_cell (blk_below HQ.out.1 hkb) 0).trans rfl
    have HB := Aside0.mk (And.intro hRu hkb)
    clear hRu hbu hkb
    refine hK.out _ _ trivial (fun hHeld => ?_)
    clear hK K hHeld
    try simp only [Act.put, List.getElem_toArray, List.getElem_cons_zero, List.getElem_cons_succ, List.setIfInBounds_toArray, List.set_cons_zero, List.set_cons_succ]
    refine wpAnyH_ready (rs := [4, 9]) (by kernel_rfl) (by simp) ?_
    refine AllReadyH.cons rfl (fun K hK => ?_) ?_
    · go_simp
      refine hK.out _ _ trivial (fun hHeld => ?_)
      clear hK K hHeld
      try simp only [Act.put, List.getElem_toArray, List.getElem_cons_zero, List.getElem_cons_succ, List.setIfInBounds_toArray, List.set_cons_zero, List.set_cons_succ]
      refine wpAnyH_ready (rs := [9]) (by kernel_rfl) (by simp) ?_
      refine AllReadyH.cons rfl (fun K hK => ?_) ?_
      · go_simp
        have k1 := (blk_cell (blk_below (blk_below HQ.out.1 HB.out.2) (below_alloc (Below.refl _ _) (.cells #[.int .i64 p, u] 42))) 0).trans rfl
        refine hK.out _ _ trivial (fun hHeld => ?_)
        clear hK K hHeld
        try simp only [Act.put, List.getElem_toArray, List.getElem_cons_zero, List.getElem_cons_succ, List.setIfInBounds_toArray, List.set_cons_zero, List.set_cons_succ]
        have hqb := blk_below HQ.out.1 HB.out.2
        have hRb := Kd.S_mono (ok' := fun k => ok k ∧ ¬ (ok k ∧ w.heap.size ≤ k)) (Kd.S_below (Kd.S_bound HQ.out.2.1) HB.out.2) (fun k hk => ⟨hk.1, fun h => by have := hk.2.2.1; omega⟩)
        have hne : some g ≠ (Value.slice A0 N c0).ownBlock := Kd.S_ne HQ.out.2.1 HQ.out.1 (by decide)
        have hRu : (Kd.int .u8).R 5 wb base (fun k => ok k ∧ w.heap.size ≤ k) u l := Kd.R_lower (Kd.R_mono (Kd.R_bound HB.out.1) (fun k hk => ⟨HQ.out.2.2.2.2.2.1 k hk.2.1, hk.2.1⟩)) HQ.out.2.2.2.1
        have hBb : Below base w0 wb := HQ.out.2.2.1.trans ⟨HB.out.2.os, HB.out.2.tape, HB.out.2.output, HB.out.2.size, fun i hi => HB.out.2.block i (Nat.lt_of_lt_of_le hi HQ.out.2.2.2.1)⟩
        have hbb : base ≤ wb.heap.size := Nat.le_trans HQ.out.2.2.2.1 HB.out.2.size
        refine wpAnyH_ready (rs := [10]) (by kernel_rfl) (by simp) ?_
        refine AllReadyH.cons rfl (fun K hK => ?_) ?_
        · refine Kd.S_append_step kIt (w0 := w0) base (by rfl) (.tmp 24) (.tmp 29) 36 42 (.agg #[.int .i64 0, .slice none 0 0]) 32 rfl Try.underlying36 Try.infoIt rfl (by decide) (by decide) (.slice A0 N c0) L (p, l) [.int .i64 p, u] ok (fun k => ok k ∧ w.heap.size ≤ k) rfl rfl ⟨[.int .i64 p], [u], rfl, rfl, u, rfl, hRu⟩ (fun k hk => ⟨hk.1, fun he => by have h1 := Kd.S_lt HQ.out.2.1 k he.symm; have h2 := hk.2; omega⟩) (fun k hk => HQ.out.2.2.2.2.2.1 k (Nat.le_trans HB.out.2.size hk)) hRb hBb hbb (by rw [← HN.out]; omega) (fun v1 W1 hR1 hB1 hg1 _ => ?_)
          have hq1 := blk_grown hqb hg1 hne
          obtain ⟨A1, c1, rfl⟩ := Kd.S_slice hR1
          generalize (L ++ [(p, l)]).length = N1 at *
          have hk5 := (blk_cell hq1 0).trans rfl
          have hf5 := blk_frozen hq1
          have hfr : ∀ k, k < w.heap.size → ¬ ok k → W1.heap[k]? = w.heap[k]? := fun k hk hn => (hg1.block k (Nat.lt_of_lt_of_le hk HB.out.2.size) (fun e => hn (HQ.out.2.1.elim fun f hf => hf.1 k e.symm))).trans (HB.out.2.block k hk)
          have HV := Aside0.mk (And.intro hR1 (And.intro hq1 (And.intro hB1 (And.intro (Nat.le_trans HB.out.2.size hg1.size) hfr))))
          clear hfr
          clear hR1 hq1 hB1 hg1 hqb hRb hne hRu hBb hbb
          refine hK.out _ _ trivial (fun hHeld => ?_)
          clear hK K hHeld
          try simp only [Act.put, List.getElem_toArray, List.getElem_cons_zero, List.getElem_cons_succ, List.setIfInBounds_toArray, List.set_cons_zero, List.set_cons_succ]
          refine wpAnyH_take (i := 11) (v := ?_) rfl (by kernel_rfl) (by kernel_rfl) (by kernel_rfl) (fun _ _ _ h => h) (Or.inl ⟨by rfl, ?_⟩) trivial ?_
          rotate_left 1
          · intro w hSw; (try dsimp only at hSw); go_simp; try with_reducible rfl
          try simp only [Act.put, List.getElem_toArray, List.getElem_cons_zero, List.getElem_cons_succ, List.setIfInBounds_toArray, List.set_cons_zero, List.set_cons_succ]
          refine wpAnyH_take (i := 12) (v := ?_) rfl (by kernel_rfl) (by kernel_rfl) (by kernel_rfl) (fun _ _ _ h => h) (Or.inl ⟨by rfl, ?_⟩) trivial ?_
          rotate_left 1
          · intro w hSw; (try dsimp only at hSw); go_simp; try with_reducible rfl
          try simp only [Act.put, List.getElem_toArray, List.getElem_cons_zero, List.getElem_cons_succ, List.setIfInBounds_toArray, List.set_cons_zero, List.set_cons_succ]
          refine wpAnyH_ready (rs := [13]) (by kernel_rfl) (by simp) ?_
          refine AllReadyH.cons rfl (fun K hK => ?_) ?_
          · go_simp
            refine hK.out _ _ trivial (fun hHeld => ?_)
            clear hK K hHeld
            try simp only [Act.put, List.getElem_toArray, List.getElem_cons_zero, List.getElem_cons_succ, List.setIfInBounds_toArray, List.set_cons_zero, List.set_cons_succ]
            refine wpAnyH_done (by kernel_rfl) ?_ _
            go_wp2
            go_ret
            obtain ⟨hR1, hq1, hB1, hs1, hfr⟩ := HV.out
            exact ⟨rfl, ⟨_, (blk_set hq1 0 _).trans rfl, Kd.S_set hR1 hq1 (by decide) 0 _⟩, Below.setCell hB1 HQ.out.2.2.2.2.1 _, by simpa [World.setCell] using hs1, fun k hk hkg hn => (Below.heap_setCell W1 ⟨g, 0, none⟩ _ k hkg).trans (hfr k hk hn)⟩
          · exact AllReadyH.nil
        · exact AllReadyH.nil
      exact AllReadyH.nil
    refine AllReadyH.cons rfl (fun K hK => ?_) ?_
    · go_simp
      have k1 := (blk_cell (blk_below (blk_below HQ.out.1 HB.out.2) (below_alloc (Below.refl _ _) (.cells #[.int .i64 p, u] 42))) 0).trans rfl
      refine hK.out _ _ trivial (fun hHeld => ?_)
      clear hK K hHeld
      try simp only [Act.put, List.getElem_toArray, List.getElem_cons_zero, List.getElem_cons_succ, List.setIfInBounds_toArray, List.set_cons_zero, List.set_cons_succ]
      refine wpAnyH_ready (rs := [4]) (by kernel_rfl) (by simp) ?_
      refine AllReadyH.cons rfl (fun K hK => ?_) ?_
      · go_simp
        refine hK.out _ _ trivial (fun hHeld => ?_)
        clear hK K hHeld
        try simp only [Act.put, List.getElem_toArray, List.getElem_cons_zero, List.getElem_cons_succ, List.setIfInBounds_toArray, List.set_cons_zero, List.set_cons_succ]
        have hqb := blk_below HQ.out.1 HB.out.2
        have hRb := Kd.S_mono (ok' := fun k => ok k ∧ ¬ (ok k ∧ w.heap.size ≤ k)) (Kd.S_below (Kd.S_bound HQ.out.2.1) HB.out.2) (fun k hk => ⟨hk.1, fun h => by have := hk.2.2.1; omega⟩)
        have hne : some g ≠ (Value.slice A0 N c0).ownBlock := Kd.S_ne HQ.out.2.1 HQ.out.1 (by decide)
        have hRu : (Kd.int .u8).R 5 wb base (fun k => ok k ∧ w.heap.size ≤ k) u l := Kd.R_lower (Kd.R_mono (Kd.R_bound HB.out.1) (fun k hk => ⟨HQ.out.2.2.2.2.2.1 k hk.2.1, hk.2.1⟩)) HQ.out.2.2.2.1
        have hBb : Below base w0 wb := HQ.out.2.2.1.trans ⟨HB.out.2.os, HB.out.2.tape, HB.out.2.output, HB.out.2.size, fun i hi => HB.out.2.block i (Nat.lt_of_lt_of_le hi HQ.out.2.2.2.1)⟩
        have hbb : base ≤ wb.heap.size := Nat.le_trans HQ.out.2.2.2.1 HB.out.2.size
        refine wpAnyH_ready (rs := [10]) (by kernel_rfl) (by simp) ?_
        refine AllReadyH.cons rfl (fun K hK => ?_) ?_
        · refine Kd.S_append_step kIt (w0 := w0) base (by rfl) (.tmp 24) (.tmp 29) 36 42 (.agg #[.int .i64 0, .slice none 0 0]) 32 rfl Try.underlying36 Try.infoIt rfl (by decide) (by decide) (.slice A0 N c0) L (p, l) [.int .i64 p, u] ok (fun k => ok k ∧ w.heap.size ≤ k) rfl rfl ⟨[.int .i64 p], [u], rfl, rfl, u, rfl, hRu⟩ (fun k hk => ⟨hk.1, fun he => by have h1 := Kd.S_lt HQ.out.2.1 k he.symm; have h2 := hk.2; omega⟩) (fun k hk => HQ.out.2.2.2.2.2.1 k (Nat.le_trans HB.out.2.size hk)) hRb hBb hbb (by rw [← HN.out]; omega) (fun v1 W1 hR1 hB1 hg1 _ => ?_)
          have hq1 := blk_grown hqb hg1 hne
          obtain ⟨A1, c1, rfl⟩ := Kd.S_slice hR1
          generalize (L ++ [(p, l)]).length = N1 at *
          have hk5 := (blk_cell hq1 0).trans rfl
          have hf5 := blk_frozen hq1
          have hfr : ∀ k, k < w.heap.size → ¬ ok k → W1.heap[k]? = w.heap[k]? := fun k hk hn => (hg1.block k (Nat.lt_of_lt_of_le hk HB.out.2.size) (fun e => hn (HQ.out.2.1.elim fun f hf => hf.1 k e.symm))).trans (HB.out.2.block k hk)
          have HV := Aside0.mk (And.intro hR1 (And.intro hq1 (And.intro hB1 (And.intro (Nat.le_trans HB.out.2.size hg1.size) hfr))))
          clear hfr
          clear hR1 hq1 hB1 hg1 hqb hRb hne hRu hBb hbb
          refine hK.out _ _ trivial (fun hHeld => ?_)
          clear hK K hHeld
          try simp only [Act.put, List.getElem_toArray, List.getElem_cons_zero, List.getElem_cons_succ, List.setIfInBounds_toArray, List.set_cons_zero, List.set_cons_succ]
          refine wpAnyH_take (i := 11) (v := ?_) rfl (by kernel_rfl) (by kernel_rfl) (by kernel_rfl) (fun _ _ _ h => h) (Or.inl ⟨by rfl, ?_⟩) trivial ?_
          rotate_left 1
          · intro w hSw; (try dsimp only at hSw); go_simp; try with_reducible rfl
          try simp only [Act.put, List.getElem_toArray, List.getElem_cons_zero, List.getElem_cons_succ, List.setIfInBounds_toArray, List.set_cons_zero, List.set_cons_succ]
          refine wpAnyH_take (i := 12) (v := ?_) rfl (by kernel_rfl) (by kernel_rfl) (by kernel_rfl) (fun _ _ _ h => h) (Or.inl ⟨by rfl, ?_⟩) trivial ?_
          rotate_left 1
          · intro w hSw; (try dsimp only at hSw); go_simp; try with_reducible rfl
          try simp only [Act.put, List.getElem_toArray, List.getElem_cons_zero, List.getElem_cons_succ, List.setIfInBounds_toArray, List.set_cons_zero, List.set_cons_succ]
          refine wpAnyH_ready (rs := [13]) (by kernel_rfl) (by simp) ?_
          refine AllReadyH.cons rfl (fun K hK => ?_) ?_
          · go_simp
            refine hK.out _ _ trivial (fun hHeld => ?_)
            clear hK K hHeld
            try simp only [Act.put, List.getElem_toArray, List.getElem_cons_zero, List.getElem_cons_succ, List.setIfInBounds_toArray, List.set_cons_zero, List.set_cons_succ]
            refine wpAnyH_done (by kernel_rfl) ?_ _
            go_wp2
            go_ret
            obtain ⟨hR1, hq1, hB1, hs1, hfr⟩ := HV.out
            exact ⟨rfl, ⟨_, (blk_set hq1 0 _).trans rfl, Kd.S_set hR1 hq1 (by decide) 0 _⟩, Below.setCell hB1 HQ.out.2.2.2.2.1 _, by simpa [World.setCell] using hs1, fun k hk hkg hn => (Below.heap_setCell W1 ⟨g, 0, none⟩ _ k hkg).trans (hfr k hk hn)⟩
          · exact AllReadyH.nil
        · exact AllReadyH.nil
      exact AllReadyH.nil
    exact AllReadyH.nil
  exact AllReadyH.nil
theorem put_room (p : Int) (A : Option Addr) (n c : Nat) (l : List Int) (w w0 : World) (base : Nat) (ok : Nat → Prop) (g : Nat) (L : List (Int × List Int)) (d : Int) (hQ : QS base ok w g L d) (hC : Kd.C (Kd.int .u8) w A n l) (hl : l.length ≤ 1000000) (hB : Below base w0 w) (hbase : base ≤ w.heap.size) (hg : base ≤ g) (hL : L.length < 4096) (hfresh : ∀ k, w.heap.size ≤ k → ok k) :
    Calls Try.prog 21 #[.pointer (some ⟨g, 0, none⟩), .int .i64 p, .slice A n c] w fun e w' => e = .returned (.bool true) ∧ QS base ok w' g (L ++ [(p, l)]) d ∧ Below base w0 w' ∧ w.heap.size ≤ w'.heap.size :=
  (put_room_fr p A n c l w w0 base ok g L d hQ hC hl hB hbase hg hL hfresh).mono (fun e w' h => ⟨h.1, h.2.1, h.2.2.1, h.2.2.2.1⟩)
end Go.Proofs.Ytjcihhkeehjgdaa
