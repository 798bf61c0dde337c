/- The document's queue: Put. -/
import Derived.Test.YtjcihhkeehjgdaaQAll
namespace Go.Proofs.Ytjcihhkeehjgdaa
open Go.RowKit Go.Proofs.YtjcihhkeehjgdaaW.PrintWords SumPlain
set_option linter.unusedVariables false
set_option linter.unusedSimpArgs false
attribute [local go_sem] setCell_drewN alloc_drewN
theorem Try.infoRt : (Try.prog.info? 62).map (fun i => (i.zero, i.size, i.bytes)) = some (some (.agg #[.int .i64 0, .slice none 0 0]), 2, 32) := by kernel_rfl
/-- The document's queue, the call's own. -/
structure RQ (base : Nat) (ok : Nat → Prop) (w : World) (g : Nat) (L : List (Int × List Int)) (d : Int) : Prop where
  ex : ∃ v, w.heap[g]? = some (.cells #[v, .int .i64 d] 58 (0, 0)) ∧ kIt.R 62 w base ok v L
theorem RQ.below {base : Nat} {ok : Nat → Prop} {w w' : World} {g : Nat} {L : List (Int × List Int)} {d : Int} (h : RQ base ok w g L d) (hb : Below w.heap.size w w') : RQ base ok w' g L d := by
  obtain ⟨v, hg, hR⟩ := h
  exact ⟨v, blk_below hg hb, Kd.R_below hR hb⟩
theorem RQ.new (base : Nat) (ok : Nat → Prop) (w : World) : RQ base ok (w.alloc (.cells #[.slice none 0 0, .int .i64 0] 58)) w.heap.size [] 0 := ⟨_, heap_alloc_new w _, Kd.R_nil _ _ _ _ _⟩
set_option maxHeartbeats 1000000 in
set_option maxRecDepth 100000 in
theorem rput_full (p : Int) (A : Option Addr) (n c : Nat) (w w0 : World) (base : Nat) (ok : Nat → Prop) (g : Nat) (L : List (Int × List Int)) (d : Int) (hQ : RQ base ok w g L d) (hB : Below base w0 w) (hg : base ≤ g) (hL : 4096 ≤ L.length) (hd0 : 0 ≤ d) (hd : d ≤ 1000000) :
    Calls Try.prog 31 #[.pointer (some ⟨g, 0, none⟩), .int .i64 p, .slice A n c] w fun e w' => e = .returned (.bool false) ∧ RQ base ok w' g L (d + 1) ∧ Below base w0 w' ∧ w.heap.size ≤ w'.heap.size ∧ FrQ ok g w w' := by
  have hu := Try.underlying58
  obtain ⟨v, hq, hR⟩ := hQ
  obtain ⟨A0, c0, rfl, hle0, hC0⟩ := Kd.R_reads hR
  have hlen : L.length ≤ 9223372036854775807 := Kd.C_max hC0
  generalize hN : L.length = N at *
  have p0 := (blk_cell hq 0).trans rfl
  have p1 := (blk_cell hq 1).trans rfl
  have fq := blk_frozen hq
  have HQ := Aside0.mk (And.intro hq (And.intro hR (And.intro hB hg)))
  clear hq hR hB hC0 hN hg
  go_enter Try.func31, Try.ntmps31
  go_wp2
  go_ret
  obtain ⟨hq, hR, hB, hg⟩ := HQ.out
  exact ⟨rfl, ⟨_, (blk_set hq 1 _).trans rfl, Kd.R_set hR hq (by decide) 1 _⟩, Below.setCell hB hg _, by simp [World.setCell], fun k hk hkg _ => Below.heap_setCell w ⟨g, 1, none⟩ _ k hkg⟩
set_option maxHeartbeats 4000000 in
set_option maxRecDepth 100000 in
theorem rput_room (p : Int) (A : Option Addr) (n c : Nat) (l : List Int) (w w0 : World) (base : Nat) (ok : Nat → Prop) (g : Nat) (L : List (Int × List Int)) (d : Int) (hQ : RQ base ok w g L d) (hC : Kd.C (Kd.int .u8) w A n l) (hl : l.length ≤ 1000000) (hB : Below base w0 w) (hbase : base ≤ w.heap.size) (hg : base ≤ g) (hL : L.length < 4096) (hfresh : ∀ k, w.heap.size ≤ k → ok k) :
    Calls Try.prog 31 #[.pointer (some ⟨g, 0, none⟩), .int .i64 p, .slice A n c] w fun e w' => e = .returned (.bool true) ∧ RQ base ok w' g (L ++ [(p, l)]) d ∧ Below base w0 w' ∧ w.heap.size ≤ w'.heap.size ∧ FrQ ok g w w' := by
  have hu := Try.underlying58
  have hu2 := Try.underlying62
  obtain ⟨v, hq, hR⟩ := hQ
  obtain ⟨A0, c0, rfl, hle0, hC0⟩ := Kd.R_reads hR
  obtain ⟨N, hN⟩ : ∃ N, N = L.length := ⟨_, rfl⟩
  rw [← hN] at hq hR hle0 hL
  have HN := Aside0.mk hN
  have p0 := (blk_cell hq 0).trans rfl
  have fq := blk_frozen hq
  have hgw := blk_lt hq
  have HQ := Aside0.mk (And.intro hq (And.intro hR (And.intro hB (And.intro hbase (And.intro hg (And.intro hfresh (And.intro hC hl)))))))
  clear hq hR hB hC0 hN hg hfresh hC hl hbase
  go_enter Try.func31, Try.ntmps31
  go_wp2_with fail
  refine wp_region_held_drew (S := (fun _ => True)) (by kernel_rfl) trivial (fun hHeld => ?_)
  refine wpAnyH_take (i := 0) (v := ?_) rfl (by kernel_rfl) (by kernel_rfl) (by kernel_rfl) (fun _ _ _ h => h) (Or.inl ⟨by rfl, ?_⟩) trivial ?_
  rotate_left 1
  · intro w hSw; (try dsimp only at hSw); go_simp; try with_reducible rfl
  try simp only [Act.put, List.getElem_toArray, List.getElem_cons_zero, List.getElem_cons_succ, List.setIfInBounds_toArray, List.set_cons_zero, List.set_cons_succ]
  refine wpAnyH_take (i := 1) (v := ?_) rfl (by kernel_rfl) (by kernel_rfl) (by kernel_rfl) (fun _ _ _ h => h) (Or.inl ⟨by rfl, ?_⟩) trivial ?_
  rotate_left 1
  · intro w hSw; (try dsimp only at hSw); go_simp; try with_reducible rfl
  try simp only [Act.put, List.getElem_toArray, List.getElem_cons_zero, List.getElem_cons_succ, List.setIfInBounds_toArray, List.set_cons_zero, List.set_cons_succ]
  refine wpAnyH_take (i := 2) (v := ?_) rfl (by kernel_rfl) (by kernel_rfl) (by kernel_rfl) (fun _ _ _ h => h) (Or.inl ⟨by rfl, ?_⟩) trivial ?_
  rotate_left 1
  · intro w hSw; (try dsimp only at hSw); go_simp; try with_reducible rfl
  try simp only [Act.put, List.getElem_toArray, List.getElem_cons_zero, List.getElem_cons_succ, List.setIfInBounds_toArray, List.set_cons_zero, List.set_cons_succ]
  refine wpAnyH_take (i := 3) (v := ?_) rfl (by kernel_rfl) (by kernel_rfl) (by kernel_rfl) (fun _ _ _ h => h) (Or.inl ⟨by rfl, ?_⟩) trivial ?_
  rotate_left 1
  · intro w hSw; (try dsimp only at hSw); go_simp; try with_reducible rfl
  try simp only [Act.put, List.getElem_toArray, List.getElem_cons_zero, List.getElem_cons_succ, List.setIfInBounds_toArray, List.set_cons_zero, List.set_cons_succ]
  refine wpAnyH_take (i := 5) (v := ?_) rfl (by kernel_rfl) (by kernel_rfl) (by kernel_rfl) (fun _ _ _ h => h) (Or.inl ⟨by rfl, ?_⟩) trivial ?_
  rotate_left 1
  · intro w hSw; (try dsimp only at hSw); go_simp; try with_reducible rfl
  try simp only [Act.put, List.getElem_toArray, List.getElem_cons_zero, List.getElem_cons_succ, List.setIfInBounds_toArray, List.set_cons_zero, List.set_cons_succ]
  refine wpAnyH_take (i := 6) (v := ?_) rfl (by kernel_rfl) (by kernel_rfl) (by kernel_rfl) (fun _ _ _ h => h) (Or.inl ⟨by rfl, ?_⟩) trivial ?_
  rotate_left 1
  · intro w hSw; (try dsimp only at hSw); go_simp; try with_reducible rfl
  try simp only [Act.put, List.getElem_toArray, List.getElem_cons_zero, List.getElem_cons_succ, List.setIfInBounds_toArray, List.set_cons_zero, List.set_cons_succ]
  refine wpAnyH_ready (rs := [4, 7]) (by kernel_rfl) (by simp) ?_
  refine AllReadyH.cons rfl (fun K hK => ?_) ?_
  · go_simp
    refine hK.out _ _ trivial (fun hHeld => ?_)
    clear hK K hHeld
    try simp only [Act.put, List.getElem_toArray, List.getElem_cons_zero, List.getElem_cons_succ, List.setIfInBounds_toArray, List.set_cons_zero, List.set_cons_succ]
    refine wpAnyH_ready (rs := [7]) (by kernel_rfl) (by simp) ?_
    refine AllReadyH.cons rfl (fun K hK => ?_) ?_
    · go_simp
      refine (bytes_any A n c l _ (Kd.C_drew HQ.out.2.2.2.2.2.2.1) HQ.out.2.2.2.2.2.2.2).mono ?_
      rintro e wb ⟨u, rfl, hRu, hbu⟩
      have hkb : Below w.heap.size w wb := reach_to (below_drew (Below.refl _ _)) (Nat.le_refl _) hbu
      have k0 := (blk_cell (blk_below HQ.out.1 hkb) 0).trans rfl
      obtain ⟨Au, cu, rfl⟩ := Kd.R_slice hRu
      have HB := Aside0.mk (And.intro hRu hkb)
      clear hRu hbu hkb
      refine hK.out _ _ trivial (fun hHeld => ?_)
      clear hK K hHeld
      try simp only [Act.put, List.getElem_toArray, List.getElem_cons_zero, List.getElem_cons_succ, List.setIfInBounds_toArray, List.set_cons_zero, List.set_cons_succ]
      refine wpAnyH_take (i := 8) (v := ?_) rfl (by kernel_rfl) (by kernel_rfl) (by kernel_rfl) (fun _ _ _ h => h) (Or.inl ⟨by rfl, ?_⟩) trivial ?_
      rotate_left 1
      · intro w hSw; (try dsimp only at hSw); go_simp; try with_reducible rfl
      try simp only [Act.put, List.getElem_toArray, List.getElem_cons_zero, List.getElem_cons_succ, List.setIfInBounds_toArray, List.set_cons_zero, List.set_cons_succ]
      refine wpAnyH_ready (rs := [9]) (by kernel_rfl) (by simp) ?_
      refine AllReadyH.cons rfl (fun K hK => ?_) ?_
      · go_simp
        have k1 := (blk_cell (blk_below (blk_below HQ.out.1 HB.out.2) (below_alloc (Below.refl _ _) (.cells #[.int .i64 p, .slice Au l.length cu] 62))) 0).trans rfl
        refine hK.out _ _ trivial (fun hHeld => ?_)
        clear hK K hHeld
        try simp only [Act.put, List.getElem_toArray, List.getElem_cons_zero, List.getElem_cons_succ, List.setIfInBounds_toArray, List.set_cons_zero, List.set_cons_succ]
        refine wpAnyH_ready (rs := [10]) (by kernel_rfl) (by simp) ?_
        refine AllReadyH.cons rfl (fun K hK => ?_) ?_
        · have hqb := blk_below HQ.out.1 HB.out.2
          have hRb := Kd.R_below HQ.out.2.1 HB.out.2
          have hne : some g ≠ (Value.slice A0 N c0).ownBlock := Kd.R_ne HQ.out.2.1 HQ.out.1 (by decide)
          have hRu : (Kd.int .u8).R 5 wb base (fun k => ok k ∧ some k ≠ (Value.slice A0 N c0).ownBlock) (.slice Au l.length cu) l := Kd.R_lower (Kd.R_mono (Kd.R_bound HB.out.1) (fun k hk => ⟨HQ.out.2.2.2.2.2.1 k hk.2.1, fun he => by have h1 := Kd.R_lt HQ.out.2.1 k he.symm; have h2 : w.heap.size ≤ k := hk.2.1; omega⟩)) HQ.out.2.2.2.1
          have hBb : Below base w0 wb := HQ.out.2.2.1.trans ⟨HB.out.2.os, HB.out.2.tape, HB.out.2.output, HB.out.2.size, fun i hi => HB.out.2.block i (Nat.lt_of_lt_of_le hi HQ.out.2.2.2.1)⟩
          have hbb : base ≤ wb.heap.size := Nat.le_trans HQ.out.2.2.2.1 HB.out.2.size
          refine Kd.R_append_step kIt (w0 := w0) (W := wb) base (by rfl) (.tmp 25) (.tmp 30) 56 62 (.agg #[.int .i64 0, .slice none 0 0]) 32 rfl Try.underlying56 Try.infoRt rfl (by decide) (by decide) (.slice A0 N c0) L (p, l) [.int .i64 p, .slice Au l.length cu] ok (fun k => ok k ∧ some k ≠ (Value.slice A0 N c0).ownBlock) rfl rfl ⟨[.int .i64 p], [.slice Au l.length cu], rfl, rfl, _, rfl, hRu⟩ (fun k hk => hk) (fun k hk => HQ.out.2.2.2.2.2.1 k (Nat.le_trans HB.out.2.size hk)) hRb hBb hbb (by rw [← HN.out]; omega) (fun v1 W1 hR1 hB1 hg1 _ => ?_)
          have hq1 := blk_grown hqb hg1 hne
          have hfr : ∀ k, k < w.heap.size → ¬ ok k → W1.heap[k]? = w.heap[k]? := fun k hk hn => (hg1.block k (Nat.lt_of_lt_of_le hk HB.out.2.size) (fun e => hn (HQ.out.2.1.1 k e.symm))).trans (HB.out.2.block k hk)
          obtain ⟨A1, c1, rfl⟩ := Kd.R_slice hR1
          generalize (L ++ [(p, l)]).length = N1 at *
          have hk5 := (blk_cell hq1 0).trans rfl
          have hf5 := blk_frozen hq1
          have HV := Aside0.mk (And.intro hR1 (And.intro hq1 (And.intro hB1 (And.intro (Nat.le_trans HB.out.2.size hg1.size) hfr))))
          clear hR1 hq1 hB1 hg1 hqb hRb hne hRu hBb hbb hfr
          refine hK.out _ _ trivial (fun hHeld => ?_)
          clear hK K hHeld
          try simp only [Act.put, List.getElem_toArray, List.getElem_cons_zero, List.getElem_cons_succ, List.setIfInBounds_toArray, List.set_cons_zero, List.set_cons_succ]
          refine wpAnyH_take (i := 11) (v := ?_) rfl (by kernel_rfl) (by kernel_rfl) (by kernel_rfl) (fun _ _ _ h => h) (Or.inl ⟨by rfl, ?_⟩) trivial ?_
          rotate_left 1
          · intro w hSw; (try dsimp only at hSw); go_simp; try with_reducible rfl
          try simp only [Act.put, List.getElem_toArray, List.getElem_cons_zero, List.getElem_cons_succ, List.setIfInBounds_toArray, List.set_cons_zero, List.set_cons_succ]
          refine wpAnyH_take (i := 12) (v := ?_) rfl (by kernel_rfl) (by kernel_rfl) (by kernel_rfl) (fun _ _ _ h => h) (Or.inl ⟨by rfl, ?_⟩) trivial ?_
          rotate_left 1
          · intro w hSw; (try dsimp only at hSw); go_simp; try with_reducible rfl
          try simp only [Act.put, List.getElem_toArray, List.getElem_cons_zero, List.getElem_cons_succ, List.setIfInBounds_toArray, List.set_cons_zero, List.set_cons_succ]
          refine wpAnyH_ready (rs := [13]) (by kernel_rfl) (by simp) ?_
          refine AllReadyH.cons rfl (fun K hK => ?_) ?_
          · go_simp
            refine hK.out _ _ trivial (fun hHeld => ?_)
            clear hK K hHeld
            try simp only [Act.put, List.getElem_toArray, List.getElem_cons_zero, List.getElem_cons_succ, List.setIfInBounds_toArray, List.set_cons_zero, List.set_cons_succ]
            refine wpAnyH_done (by kernel_rfl) ?_ _
            go_wp2
            go_ret
            obtain ⟨hR1, hq1, hB1, hs1, hfr⟩ := HV.out
            exact ⟨rfl, ⟨_, (blk_set hq1 0 _).trans rfl, Kd.R_set hR1 hq1 (by decide) 0 _⟩, Below.setCell hB1 HQ.out.2.2.2.2.1 _, by simpa [World.setCell] using hs1, fun k hk hkg hn => (Below.heap_setCell W1 ⟨g, 0, none⟩ _ k hkg).trans (hfr k hk hn)⟩
          exact AllReadyH.nil
        exact AllReadyH.nil
      exact AllReadyH.nil
    exact AllReadyH.nil
  refine AllReadyH.cons rfl (fun K hK => ?_) ?_
  · go_simp
    refine (bytes_any A n c l _ (Kd.C_drew HQ.out.2.2.2.2.2.2.1) HQ.out.2.2.2.2.2.2.2).mono ?_
    rintro e wb ⟨u, rfl, hRu, hbu⟩
    have hkb : Below w.heap.size w wb := reach_to (below_drew (Below.refl _ _)) (Nat.le_refl _) hbu
    have k0 := (blk_cell (blk_below HQ.out.1 hkb) 0).trans rfl
    obtain ⟨Au, cu, rfl⟩ := Kd.R_slice hRu
    have HB := Aside0.mk (And.intro hRu hkb)
    clear hRu hbu hkb
    refine hK.out _ _ trivial (fun hHeld => ?_)
    clear hK K hHeld
    try simp only [Act.put, List.getElem_toArray, List.getElem_cons_zero, List.getElem_cons_succ, List.setIfInBounds_toArray, List.set_cons_zero, List.set_cons_succ]
    refine wpAnyH_take (i := 8) (v := ?_) rfl (by kernel_rfl) (by kernel_rfl) (by kernel_rfl) (fun _ _ _ h => h) (Or.inl ⟨by rfl, ?_⟩) trivial ?_
    rotate_left 1
    · intro w hSw; (try dsimp only at hSw); go_simp; try with_reducible rfl
    try simp only [Act.put, List.getElem_toArray, List.getElem_cons_zero, List.getElem_cons_succ, List.setIfInBounds_toArray, List.set_cons_zero, List.set_cons_succ]
    refine wpAnyH_ready (rs := [4, 9]) (by kernel_rfl) (by simp) ?_
    refine AllReadyH.cons rfl (fun K hK => ?_) ?_
    · go_simp
      refine hK.out _ _ trivial (fun hHeld => ?_)
      clear hK K hHeld
      try simp only [Act.put, List.getElem_toArray, List.getElem_cons_zero, List.getElem_cons_succ, List.setIfInBounds_toArray, List.set_cons_zero, List.set_cons_succ]
      refine wpAnyH_ready (rs := [9]) (by kernel_rfl) (by simp) ?_
      refine AllReadyH.cons rfl (fun K hK => ?_) ?_
      · go_simp
        have k1 := (blk_cell (blk_below (blk_below HQ.out.1 HB.out.2) (below_alloc (Below.refl _ _) (.cells #[.int .i64 p, .slice Au l.length cu] 62))) 0).trans rfl
        refine hK.out _ _ trivial (fun hHeld => ?_)
        clear hK K hHeld
        try simp only [Act.put, List.getElem_toArray, List.getElem_cons_zero, List.getElem_cons_succ, List.setIfInBounds_toArray, List.set_cons_zero, List.set_cons_succ]
        refine wpAnyH_ready (rs := [10]) (by kernel_rfl) (by simp) ?_
        refine AllReadyH.cons rfl (fun K hK => ?_) ?_
        · have hqb := blk_below HQ.out.1 HB.out.2
          have hRb := Kd.R_below HQ.out.2.1 HB.out.2
          have hne : some g ≠ (Value.slice A0 N c0).ownBlock := Kd.R_ne HQ.out.2.1 HQ.out.1 (by decide)
          have hRu : (Kd.int .u8).R 5 wb base (fun k => ok k ∧ some k ≠ (Value.slice A0 N c0).ownBlock) (.slice Au l.length cu) l := Kd.R_lower (Kd.R_mono (Kd.R_bound HB.out.1) (fun k hk => ⟨HQ.out.2.2.2.2.2.1 k hk.2.1, fun he => by have h1 := Kd.R_lt HQ.out.2.1 k he.symm; have h2 : w.heap.size ≤ k := hk.2.1; omega⟩)) HQ.out.2.2.2.1
          have hBb : Below base w0 wb := HQ.out.2.2.1.trans ⟨HB.out.2.os, HB.out.2.tape, HB.out.2.output, HB.out.2.size, fun i hi => HB.out.2.block i (Nat.lt_of_lt_of_le hi HQ.out.2.2.2.1)⟩
          have hbb : base ≤ wb.heap.size := Nat.le_trans HQ.out.2.2.2.1 HB.out.2.size
          refine Kd.R_append_step kIt (w0 := w0) (W := wb) base (by rfl) (.tmp 25) (.tmp 30) 56 62 (.agg #[.int .i64 0, .slice none 0 0]) 32 rfl Try.underlying56 Try.infoRt rfl (by decide) (by decide) (.slice A0 N c0) L (p, l) [.int .i64 p, .slice Au l.length cu] ok (fun k => ok k ∧ some k ≠ (Value.slice A0 N c0).ownBlock) rfl rfl ⟨[.int .i64 p], [.slice Au l.length cu], rfl, rfl, _, rfl, hRu⟩ (fun k hk => hk) (fun k hk => HQ.out.2.2.2.2.2.1 k (Nat.le_trans HB.out.2.size hk)) hRb hBb hbb (by rw [← HN.out]; omega) (fun v1 W1 hR1 hB1 hg1 _ => ?_)
          have hq1 := blk_grown hqb hg1 hne
          have hfr : ∀ k, k < w.heap.size → ¬ ok k → W1.heap[k]? = w.heap[k]? := fun k hk hn => (hg1.block k (Nat.lt_of_lt_of_le hk HB.out.2.size) (fun e => hn (HQ.out.2.1.1 k e.symm))).trans (HB.out.2.block k hk)
          obtain ⟨A1, c1, rfl⟩ := Kd.R_slice hR1
          generalize (L ++ [(p, l)]).length = N1 at *
          have hk5 := (blk_cell hq1 0).trans rfl
          have hf5 := blk_frozen hq1
          have HV := Aside0.mk (And.intro hR1 (And.intro hq1 (And.intro hB1 (And.intro (Nat.le_trans HB.out.2.size hg1.size) hfr))))
          clear hR1 hq1 hB1 hg1 hqb hRb hne hRu hBb hbb hfr
          refine hK.out _ _ trivial (fun hHeld => ?_)
          clear hK K hHeld
          try simp only [Act.put, List.getElem_toArray, List.getElem_cons_zero, List.getElem_cons_succ, List.setIfInBounds_toArray, List.set_cons_zero, List.set_cons_succ]
          refine wpAnyH_take (i := 11) (v := ?_) rfl (by kernel_rfl) (by kernel_rfl) (by kernel_rfl) (fun _ _ _ h => h) (Or.inl ⟨by rfl, ?_⟩) trivial ?_
          rotate_left 1
          · intro w hSw; (try dsimp only at hSw); go_simp; try with_reducible rfl
          try simp only [Act.put, List.getElem_toArray, List.getElem_cons_zero, List.getElem_cons_succ, List.setIfInBounds_toArray, List.set_cons_zero, List.set_cons_succ]
          refine wpAnyH_take (i := 12) (v := ?_) rfl (by kernel_rfl) (by kernel_rfl) (by kernel_rfl) (fun _ _ _ h => h) (Or.inl ⟨by rfl, ?_⟩) trivial ?_
          rotate_left 1
          · intro w hSw; (try dsimp only at hSw); go_simp; try with_reducible rfl
          try simp only [Act.put, List.getElem_toArray, List.getElem_cons_zero, List.getElem_cons_succ, List.setIfInBounds_toArray, List.set_cons_zero, List.set_cons_succ]
          refine wpAnyH_ready (rs := [13]) (by kernel_rfl) (by simp) ?_
          refine AllReadyH.cons rfl (fun K hK => ?_) ?_
          · go_simp
            refine hK.out _ _ trivial (fun hHeld => ?_)
            clear hK K hHeld
            try simp only [Act.put, List.getElem_toArray, List.getElem_cons_zero, List.getElem_cons_succ, List.setIfInBounds_toArray, List.set_cons_zero, List.set_cons_succ]
            refine wpAnyH_done (by kernel_rfl) ?_ _
            go_wp2
            go_ret
            obtain ⟨hR1, hq1, hB1, hs1, hfr⟩ := HV.out
            exact ⟨rfl, ⟨_, (blk_set hq1 0 _).trans rfl, Kd.R_set hR1 hq1 (by decide) 0 _⟩, Below.setCell hB1 HQ.out.2.2.2.2.1 _, by simpa [World.setCell] using hs1, fun k hk hkg hn => (Below.heap_setCell W1 ⟨g, 0, none⟩ _ k hkg).trans (hfr k hk hn)⟩
          exact AllReadyH.nil
        exact AllReadyH.nil
      exact AllReadyH.nil
    refine AllReadyH.cons rfl (fun K hK => ?_) ?_
    · go_simp
      have k1 := (blk_cell (blk_below (blk_below HQ.out.1 HB.out.2) (below_alloc (Below.refl _ _) (.cells #[.int .i64 p, .slice Au l.length cu] 62))) 0).trans rfl
      refine hK.out _ _ trivial (fun hHeld => ?_)
      clear hK K hHeld
      try simp only [Act.put, List.getElem_toArray, List.getElem_cons_zero, List.getElem_cons_succ, List.setIfInBounds_toArray, List.set_cons_zero, List.set_cons_succ]
      refine wpAnyH_ready (rs := [4]) (by kernel_rfl) (by simp) ?_
      refine AllReadyH.cons rfl (fun K hK => ?_) ?_
      · go_simp
        refine hK.out _ _ trivial (fun hHeld => ?_)
        clear hK K hHeld
        try simp only [Act.put, List.getElem_toArray, List.getElem_cons_zero, List.getElem_cons_succ, List.setIfInBounds_toArray, List.set_cons_zero, List.set_cons_succ]
        refine wpAnyH_ready (rs := [10]) (by kernel_rfl) (by simp) ?_
        refine AllReadyH.cons rfl (fun K hK => ?_) ?_
        · have hqb := blk_below HQ.out.1 HB.out.2
          have hRb := Kd.R_below HQ.out.2.1 HB.out.2
          have hne : some g ≠ (Value.slice A0 N c0).ownBlock := Kd.R_ne HQ.out.2.1 HQ.out.1 (by decide)
          have hRu : (Kd.int .u8).R 5 wb base (fun k => ok k ∧ some k ≠ (Value.slice A0 N c0).ownBlock) (.slice Au l.length cu) l := Kd.R_lower (Kd.R_mono (Kd.R_bound HB.out.1) (fun k hk => ⟨HQ.out.2.2.2.2.2.1 k hk.2.1, fun he => by have h1 := Kd.R_lt HQ.out.2.1 k he.symm; have h2 : w.heap.size ≤ k := hk.2.1; omega⟩)) HQ.out.2.2.2.1
          have hBb : Below base w0 wb := HQ.out.2.2.1.trans ⟨HB.out.2.os, HB.out.2.tape, HB.out.2.output, HB.out.2.size, fun i hi => HB.out.2.block i (Nat.lt_of_lt_of_le hi HQ.out.2.2.2.1)⟩
          have hbb : base ≤ wb.heap.size := Nat.le_trans HQ.out.2.2.2.1 HB.out.2.size
          refine Kd.R_append_step kIt (w0 := w0) (W := wb) base (by rfl) (.tmp 25) (.tmp 30) 56 62 (.agg #[.int .i64 0, .slice none 0 0]) 32 rfl Try.underlying56 Try.infoRt rfl (by decide) (by decide) (.slice A0 N c0) L (p, l) [.int .i64 p, .slice Au l.length cu] ok (fun k => ok k ∧ some k ≠ (Value.slice A0 N c0).ownBlock) rfl rfl ⟨[.int .i64 p], [.slice Au l.length cu], rfl, rfl, _, rfl, hRu⟩ (fun k hk => hk) (fun k hk => HQ.out.2.2.2.2.2.1 k (Nat.le_trans HB.out.2.size hk)) hRb hBb hbb (by rw [← HN.out]; omega) (fun v1 W1 hR1 hB1 hg1 _ => ?_)
          have hq1 := blk_grown hqb hg1 hne
          have hfr : ∀ k, k < w.heap.size → ¬ ok k → W1.heap[k]? = w.heap[k]? := fun k hk hn => (hg1.block k (Nat.lt_of_lt_of_le hk HB.out.2.size) (fun e => hn (HQ.out.2.1.1 k e.symm))).trans (HB.out.2.block k hk)
          obtain ⟨A1, c1, rfl⟩ := Kd.R_slice hR1
          generalize (L ++ [(p, l)]).length = N1 at *
          have hk5 := (blk_cell hq1 0).trans rfl
          have hf5 := blk_frozen hq1
          have HV := Aside0.mk (And.intro hR1 (And.intro hq1 (And.intro hB1 (And.intro (Nat.le_trans HB.out.2.size hg1.size) hfr))))
          clear hR1 hq1 hB1 hg1 hqb hRb hne hRu hBb hbb hfr
          refine hK.out _ _ trivial (fun hHeld => ?_)
          clear hK K hHeld
          try simp only [Act.put, List.getElem_toArray, List.getElem_cons_zero, List.getElem_cons_succ, List.setIfInBounds_toArray, List.set_cons_zero, List.set_cons_succ]
          refine wpAnyH_take (i := 11) (v := ?_) rfl (by kernel_rfl) (by kernel_rfl) (by kernel_rfl) (fun _ _ _ h => h) (Or.inl ⟨by rfl, ?_⟩) trivial ?_
          rotate_left 1
          · intro w hSw; (try dsimp only at hSw); go_simp; try with_reducible rfl
          try simp only [Act.put, List.getElem_toArray, List.getElem_cons_zero, List.getElem_cons_succ, List.setIfInBounds_toArray, List.set_cons_zero, List.set_cons_succ]
          refine wpAnyH_take (i := 12) (v := ?_) rfl (by kernel_rfl) (by kernel_rfl) (by kernel_rfl) (fun _ _ _ h => h) (Or.inl ⟨by rfl, ?_⟩) trivial ?_
          rotate_left 1
          · intro w hSw; (try dsimp only at hSw); go_simp; try with_reducible rfl
          try simp only [Act.put, List.getElem_toArray, List.getElem_cons_zero, List.getElem_cons_succ, List.setIfInBounds_toArray, List.set_cons_zero, List.set_cons_succ]
          refine wpAnyH_ready (rs := [13]) (by kernel_rfl) (by simp) ?_
          refine AllReadyH.cons rfl (fun K hK => ?_) ?_
          · go_simp
            refine hK.out _ _ trivial (fun hHeld => ?_)
            clear hK K hHeld
            try simp only [Act.put, List.getElem_toArray, List.getElem_cons_zero, List.getElem_cons_succ, List.setIfInBounds_toArray, List.set_cons_zero, List.set_cons_succ]
            refine wpAnyH_done (by kernel_rfl) ?_ _
            go_wp2
            go_ret
            obtain ⟨hR1, hq1, hB1, hs1, hfr⟩ := HV.out
            exact ⟨rfl, ⟨_, (blk_set hq1 0 _).trans rfl, Kd.R_set hR1 hq1 (by decide) 0 _⟩, Below.setCell hB1 HQ.out.2.2.2.2.1 _, by simpa [World.setCell] using hs1, fun k hk hkg hn => (Below.heap_setCell W1 ⟨g, 0, none⟩ _ k hkg).trans (hfr k hk hn)⟩
          exact AllReadyH.nil
        exact AllReadyH.nil
      exact AllReadyH.nil
    exact AllReadyH.nil
  exact AllReadyH.nil
end Go.Proofs.Ytjcihhkeehjgdaa
