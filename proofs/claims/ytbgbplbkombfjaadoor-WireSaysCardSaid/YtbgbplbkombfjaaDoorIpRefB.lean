/- rivuletref1.HeaderBytes. -/
import Derived.Test.YtbgbplbkombfjaaDoorIpFirst
import Derived.Test.YtbgbplbkombfjaaDoorSumRef
namespace Go.Proofs.YtbgbplbkombfjaaDoor
open Go.RowKit Go.Proofs.YtbgbplbkombfjaaDoorW.PrintWords SumPlain
set_option linter.unusedVariables false
set_option linter.unusedSimpArgs false
attribute [local go_sem] setCell_drewN alloc_drewN
set_option maxHeartbeats 2000000 in
set_option maxRecDepth 100000 in
theorem refBytes_bad (h : Hdr) (w : World) (hn : ¬ h.ok) :
    Calls Tryd.prog 14 #[.agg h.cells] w fun e w' => e = .returned (.tuple #[.slice none 0 0, .int .i64 103]) ∧ Below w.heap.size w w' := by
  obtain ⟨x0, x1, x2, x3, x4, x5⟩ := h
  simp only [Hdr.cells]
  by_cases h0 : x0 < 20
  · clear hn
    go_enter Tryd.func14, Tryd.ntmps14
    go_wp2
    go_ret2
    exact ⟨rfl, below_alloc (Below.refl _ _) _⟩
  · have g0 : 20 ≤ x0 := by omega
    clear h0
    by_cases h1 : 65535 < x0
    · clear hn
      go_enter Tryd.func14, Tryd.ntmps14
      go_wp2
      go_ret2
      exact ⟨rfl, below_alloc (Below.refl _ _) _⟩
    · have g1 : x0 ≤ 65535 := by omega
      clear h1
      by_cases h2 : x1 < 0
      · clear hn
        go_enter Tryd.func14, Tryd.ntmps14
        go_wp2
        go_ret2
        exact ⟨rfl, below_alloc (Below.refl _ _) _⟩
      · have g2 : 0 ≤ x1 := by omega
        clear h2
        by_cases h3 : 65535 < x1
        · clear hn
          go_enter Tryd.func14, Tryd.ntmps14
          go_wp2
          go_ret2
          exact ⟨rfl, below_alloc (Below.refl _ _) _⟩
        · have g3 : x1 ≤ 65535 := by omega
          clear h3
          by_cases h4 : x2 < 0
          · clear hn
            go_enter Tryd.func14, Tryd.ntmps14
            go_wp2
            go_ret2
            exact ⟨rfl, below_alloc (Below.refl _ _) _⟩
          · have g4 : 0 ≤ x2 := by omega
            clear h4
            by_cases h5 : 255 < x2
            · clear hn
              go_enter Tryd.func14, Tryd.ntmps14
              go_wp2
              go_ret2
              exact ⟨rfl, below_alloc (Below.refl _ _) _⟩
            · have g5 : x2 ≤ 255 := by omega
              clear h5
              by_cases h6 : x3 < 0
              · clear hn
                go_enter Tryd.func14, Tryd.ntmps14
                go_wp2
                go_ret2
                exact ⟨rfl, below_alloc (Below.refl _ _) _⟩
              · have g6 : 0 ≤ x3 := by omega
                clear h6
                by_cases h7 : 255 < x3
                · clear hn
                  go_enter Tryd.func14, Tryd.ntmps14
                  go_wp2
                  go_ret2
                  exact ⟨rfl, below_alloc (Below.refl _ _) _⟩
                · have g7 : x3 ≤ 255 := by omega
                  clear h7
                  exact absurd ⟨⟨g0, g1⟩, ⟨g2, g3⟩, ⟨g4, g5⟩, g6, g7⟩ hn
set_option maxHeartbeats 4000000 in
set_option maxRecDepth 100000 in
theorem refBytes_good (h : Hdr) (w : World) (hk : h.ok) (hw : h.wf) :
    Calls Tryd.prog 14 #[.agg h.cells] w fun e w' => ∃ v, e = .returned (.tuple #[v, .int .i64 0]) ∧ (Kd.int .u8).R 5 w' w.heap.size (fun _ => True) v (hdrL h) ∧ Below w.heap.size w w' := by
  have hu := Tryd.underlying34
  have hrb := raw_byt h hk hw
  obtain ⟨x0, x1, x2, x3, x4, x5⟩ := h
  simp only [Hdr.cells]
  obtain ⟨⟨k0, k0'⟩, ⟨k1, k1'⟩, ⟨k2, k2'⟩, k3, k3'⟩ := hk
  obtain ⟨⟨k4, k4'⟩, k5, k5'⟩ := hw
  simp only at k0 k0' k1 k1' k2 k2' k3 k3' k4 k4' k5 k5'
  have HRB := Aside0.mk hrb
  clear hrb
  obtain ⟨W, hW⟩ : ∃ W, W = w.alloc (.cells #[.int .i64 x0, .int .i64 x1, .int .i64 x2, .int .i64 x3, .int .u32 x4, .int .u32 x5] 34) := ⟨_, rfl⟩
  have hb0 : Below w.heap.size w W := by rw [hW]; exact below_alloc (Below.refl _ _) _
  have hh : W.heap[w.heap.size]? = some (.cells #[.int .i64 x0, .int .i64 x1, .int .i64 x2, .int .i64 x3, .int .u32 x4, .int .u32 x5] 34 (0, 0)) := by rw [hW]; exact heap_alloc_new w _
  have HS := Aside0.mk (And.intro hh hb0)
  have HX := Aside0.mk hW
  clear hb0 hh hW
  go_enter Tryd.func14, Tryd.ntmps14
  go_wp2_with fail
  have hW := HX.out
  rw [← hW]
  clear HX hW
  obtain ⟨hh, hBw⟩ := HS.out
  obtain ⟨b, hb⟩ : ∃ b, b = w.heap.size := ⟨_, rfl⟩
  have HBB := Aside0.mk hb
  rw [← hb] at hh ⊢
  clear hb hBw
  have p0 := (blk_cell hh 0).trans rfl
  have p1 := (blk_cell hh 1).trans rfl
  clear hh
  refine wp_region_held_drew (S := (fun w' => w'.cell? ⟨b, 0, none⟩ = some (.int .i64 x0) ∧ w'.cell? ⟨b, 1, none⟩ = some (.int .i64 x1))) (by kernel_rfl) ?_ (fun hHeld => ?_)
  · (refine (fun hK : Below W.heap.size W _ => ⟨pw_cell_below hK p0, pw_cell_below hK p1⟩) ?_; (first | assumption | exact Below.refl _ _ | (refine below_drew ?_; first | assumption | exact Below.refl _ _) | (refine below_alloc ?_ _; exact Below.refl _ _) | (refine below_drew ?_; refine below_alloc ?_ _; exact Below.refl _ _)))
  refine wpAnyH_take (i := 1) (v := ?_) rfl (by kernel_rfl) (by kernel_rfl) (by kernel_rfl) (fun _ _ _ h => h) (Or.inl ⟨by rfl, ?_⟩) (by assumption) ?_
  rotate_left 1
  · intro w hSw; (try dsimp only at hSw); go_simp; try with_reducible rfl
  try simp only [Act.put, List.getElem_toArray, List.getElem_cons_zero, List.getElem_cons_succ, List.setIfInBounds_toArray, List.set_cons_zero, List.set_cons_succ]
  refine wpAnyH_take (i := 2) (v := ?_) rfl (by kernel_rfl) (by kernel_rfl) (by kernel_rfl) (fun _ _ _ h => h) (Or.inl ⟨by rfl, ?_⟩) (by assumption) ?_
  rotate_left 1
  · intro w hSw; (try dsimp only at hSw); go_simp; try with_reducible rfl
  try simp only [Act.put, List.getElem_toArray, List.getElem_cons_zero, List.getElem_cons_succ, List.setIfInBounds_toArray, List.set_cons_zero, List.set_cons_succ]
  refine wpAnyH_take (i := 4) (v := ?_) rfl (by kernel_rfl) (by kernel_rfl) (by kernel_rfl) (fun _ _ _ h => h) (Or.inl ⟨by rfl, ?_⟩) (by assumption) ?_
  rotate_left 1
  · intro w hSw; (try dsimp only at hSw); go_simp; try with_reducible rfl
  try simp only [Act.put, List.getElem_toArray, List.getElem_cons_zero, List.getElem_cons_succ, List.setIfInBounds_toArray, List.set_cons_zero, List.set_cons_succ]
  refine wpAnyH_take (i := 5) (v := ?_) rfl (by kernel_rfl) (by kernel_rfl) (by kernel_rfl) (fun _ _ _ h => h) (Or.inl ⟨by rfl, ?_⟩) (by assumption) ?_
  rotate_left 1
  · intro w hSw; (try dsimp only at hSw); go_simp; try with_reducible rfl
  try simp only [Act.put, List.getElem_toArray, List.getElem_cons_zero, List.getElem_cons_succ, List.setIfInBounds_toArray, List.set_cons_zero, List.set_cons_succ]
  refine wpAnyH_ready (rs := [0]) (by kernel_rfl) (by simp) ?_
  refine AllReadyH.cons rfl (fun K hK => ?_) ?_
  · go_simp
    have CL := Kd.C_drew (lit_C .u8 W 5 [69, 0] (by simp))
    have hb0' : Below W.heap.size W (W.alloc (.cells (nums .u8 [69, 0]).toArray 5)).drew := below_drew (below_alloc (Below.refl _ _) _)
    refine hK.out _ _ ?_ (fun hHeld => ?_)
    · (refine (fun hK : Below W.heap.size W _ => ⟨pw_cell_below hK p0, pw_cell_below hK p1⟩) ?_; (first | assumption | exact Below.refl _ _ | (refine below_drew ?_; first | assumption | exact Below.refl _ _) | (refine below_alloc ?_ _; exact Below.refl _ _) | (refine below_drew ?_; refine below_alloc ?_ _; exact Below.refl _ _)))
    clear hK K
    try simp only [Act.put, List.getElem_toArray, List.getElem_cons_zero, List.getElem_cons_succ, List.setIfInBounds_toArray, List.set_cons_zero, List.set_cons_succ]
    refine wpAnyH_ready (rs := [3]) (by kernel_rfl) (by simp) ?_
    refine AllReadyH.cons rfl (fun K hK => ?_) ?_
    · go_simp
      refine (two_any (some ⟨W.heap.size, 0, none⟩) 2 2 [69, 0] x0 _ CL (by simp) (by omega) (by omega)).mono ?_
      rintro e wa ⟨va, rfl, hRa, hba⟩
      have hk1 : Below W.heap.size W wa := reach_to hb0' hb0'.size hba
      obtain ⟨Aa, ca, rfl, hlea, hCa⟩ := Kd.R_reads hRa
      simp only [List.length_append, List.length_cons, List.length_nil, nuB, Nat.reduceAdd] at hCa hlea ⊢
      refine hK.out _ _ ?_ (fun hHeld => ?_)
      · (refine (fun hK : Below W.heap.size W _ => ⟨pw_cell_below hK p0, pw_cell_below hK p1⟩) ?_; (first | assumption | exact Below.refl _ _ | (refine below_drew ?_; first | assumption | exact Below.refl _ _) | (refine below_alloc ?_ _; exact Below.refl _ _) | (refine below_drew ?_; refine below_alloc ?_ _; exact Below.refl _ _)))
      clear hK K
      try simp only [Act.put, List.getElem_toArray, List.getElem_cons_zero, List.getElem_cons_succ, List.setIfInBounds_toArray, List.set_cons_zero, List.set_cons_succ]
      refine wpAnyH_ready (rs := [6]) (by kernel_rfl) (by simp) ?_
      refine AllReadyH.cons rfl (fun K hK => ?_) ?_
      · go_simp
        refine (two_any Aa 4 ca ([69, 0] ++ nuB x0) x1 _ (Kd.C_below hCa (by first | exact Below.refl _ _ | exact below_drew (Below.refl _ _))) (by simp [nuB]) (by omega) (by omega)).mono ?_
        rintro e wb ⟨vb, rfl, hRb, hbb⟩
        have hk2 : Below W.heap.size W wb := reach_to hk1 hk1.size (below_then (by first | exact Below.refl _ _ | exact below_drew (Below.refl _ _)) (Nat.le_refl _) hbb)
        refine hK.out _ _ ?_ (fun hHeld => ?_)
        · (refine (fun hK : Below W.heap.size W _ => ⟨pw_cell_below hK p0, pw_cell_below hK p1⟩) ?_; (first | assumption | exact Below.refl _ _ | (refine below_drew ?_; first | assumption | exact Below.refl _ _) | (refine below_alloc ?_ _; exact Below.refl _ _) | (refine below_drew ?_; refine below_alloc ?_ _; exact Below.refl _ _)))
        clear hK K
        try simp only [Act.put, List.getElem_toArray, List.getElem_cons_zero, List.getElem_cons_succ, List.setIfInBounds_toArray, List.set_cons_zero, List.set_cons_succ]
        refine wpAnyH_take (i := 7) (v := ?_) rfl (by kernel_rfl) (by kernel_rfl) (by kernel_rfl) (fun _ _ _ h => h) (Or.inl ⟨by rfl, ?_⟩) (by assumption) ?_
        rotate_left 1
        · intro w hSw; (try dsimp only at hSw); go_simp; try with_reducible rfl
        try simp only [Act.put, List.getElem_toArray, List.getElem_cons_zero, List.getElem_cons_succ, List.setIfInBounds_toArray, List.set_cons_zero, List.set_cons_succ]
        refine wpAnyH_done (by kernel_rfl) ?_ _
        clear hHeld
        obtain ⟨hh, hBw⟩ := HS.out
        rw [← HBB.out] at hh
        replace hh := blk_below hh hk2
        have hB2 := reach_to hBw hBw.size hk2
        have hRb' := Kd.R_lower hRb (by first | exact hk1.size | exact Nat.le_trans hBw.size hk1.size | omega)
        have p2 := (blk_cell hh 2).trans rfl
        have p3 := (blk_cell hh 3).trans rfl
        have CL6 := lit_C .u8 wb 5 [0, 0, x2, x3, 0, 0] (by simp)
        have HQ := Aside0.mk (And.intro hh (And.intro hBw hB2))
        have HR6 := Aside0.mk (And.intro (Kd.R_alloc (Kd.R_lower hRb hk1.size) (.cells (nums .u8 [0, 0, x2, x3, 0, 0]).toArray 5)) (And.intro CL6 (below_alloc hk2 (.cells (nums .u8 [0, 0, x2, x3, 0, 0]).toArray 5))))
        clear hh hB2 hRb hRb' CL6 hCa CL hb0' hba hbb hBw
        clear p0 p1
        go_wp2_with (at_builtin; refine Kd.R_append_row (w0 := W) (Value.int .u8) 0 W.heap.size rfl (.tmp 50) (.tmp 57) 26 5 (.int .u8 0) 1 rfl Tryd.underlying26 Tryd.infoB rfl (by decide) vb ([69, 0] ++ nuB x0 ++ nuB x1) [0, 0, x2, x3, 0, 0] (some ⟨wb.heap.size, 0, none⟩) 6 6 (fun _ => True) (by rfl) (by rfl) (fun _ _ => trivial) HR6.out.1 HR6.out.2.1 HR6.out.2.2 (HR6.out.2.2.size) (by simp [nuB]) ?_)
        intro v1 w1 hR1 hb1 _ _
        clear p2 p3 hk1 hk2 HR6
        go_wp2_with fail
        obtain ⟨A1, c1, rfl, hle1, hC1⟩ := Kd.R_reads hR1
        simp only [nuB, List.length_append, List.length_cons, List.length_nil, Nat.reduceAdd, List.cons_append, List.nil_append] at hC1 hle1 ⊢
        obtain ⟨hh, hBw, _⟩ := HQ.out
        replace hh := blk_below HS.out.1 hb1
        rw [← HBB.out] at hh
        clear hHeld
        have p4 := (blk_cell hh 4).trans rfl
        have p5 := (blk_cell hh 5).trans rfl
        clear hh
        refine wp_region_held_drew (S := (fun w' => w'.cell? ⟨b, 4, none⟩ = some (.int .u32 x4) ∧ w'.cell? ⟨b, 5, none⟩ = some (.int .u32 x5))) (by kernel_rfl) ?_ (fun hHeld => ?_)
        · (refine (fun hK : Below w1.heap.size w1 _ => ⟨pw_cell_below hK p4, pw_cell_below hK p5⟩) ?_; (first | assumption | exact Below.refl _ _ | (refine below_drew ?_; first | assumption | exact Below.refl _ _)))
        refine wpAnyH_take (i := 0) (v := ?_) rfl (by kernel_rfl) (by kernel_rfl) (by kernel_rfl) (fun _ _ _ h => h) (Or.inl ⟨by rfl, ?_⟩) (by assumption) ?_
        rotate_left 1
        · intro w hSw; (try dsimp only at hSw); go_simp; try with_reducible rfl
        try simp only [Act.put, List.getElem_toArray, List.getElem_cons_zero, List.getElem_cons_succ, List.setIfInBounds_toArray, List.set_cons_zero, List.set_cons_succ]
        refine wpAnyH_take (i := 1) (v := ?_) rfl (by kernel_rfl) (by kernel_rfl) (by kernel_rfl) (fun _ _ _ h => h) (Or.inl ⟨by rfl, ?_⟩) (by assumption) ?_
        rotate_left 1
        · intro w hSw; (try dsimp only at hSw); go_simp; try with_reducible rfl
        try simp only [Act.put, List.getElem_toArray, List.getElem_cons_zero, List.getElem_cons_succ, List.setIfInBounds_toArray, List.set_cons_zero, List.set_cons_succ]
        refine wpAnyH_take (i := 2) (v := ?_) rfl (by kernel_rfl) (by kernel_rfl) (by kernel_rfl) (fun _ _ _ h => h) (Or.inl ⟨by rfl, ?_⟩) (by assumption) ?_
        rotate_left 1
        · intro w hSw; (try dsimp only at hSw); go_simp; try with_reducible rfl
        try simp only [Act.put, List.getElem_toArray, List.getElem_cons_zero, List.getElem_cons_succ, List.setIfInBounds_toArray, List.set_cons_zero, List.set_cons_succ]
        refine wpAnyH_take (i := 4) (v := ?_) rfl (by kernel_rfl) (by kernel_rfl) (by kernel_rfl) (fun _ _ _ h => h) (Or.inl ⟨by rfl, ?_⟩) (by assumption) ?_
        rotate_left 1
        · intro w hSw; (try dsimp only at hSw); go_simp; try with_reducible rfl
        try simp only [Act.put, List.getElem_toArray, List.getElem_cons_zero, List.getElem_cons_succ, List.setIfInBounds_toArray, List.set_cons_zero, List.set_cons_succ]
        refine wpAnyH_take (i := 5) (v := ?_) rfl (by kernel_rfl) (by kernel_rfl) (by kernel_rfl) (fun _ _ _ h => h) (Or.inl ⟨by rfl, ?_⟩) (by assumption) ?_
        rotate_left 1
        · intro w hSw; (try dsimp only at hSw); go_simp; try with_reducible rfl
        try simp only [Act.put, List.getElem_toArray, List.getElem_cons_zero, List.getElem_cons_succ, List.setIfInBounds_toArray, List.set_cons_zero, List.set_cons_succ]
        refine wpAnyH_ready (rs := [3]) (by kernel_rfl) (by simp) ?_
        refine AllReadyH.cons rfl (fun K hK => ?_) ?_
        · go_simp
          refine (four_any A1 12 c1 [69, 0, x0 / 256, x0 % 256, x1 / 256, x1 % 256, 0, 0, x2, x3, 0, 0] x4 _ (Kd.C_below hC1 (by first | exact Below.refl _ _ | exact below_drew (Below.refl _ _))) (by simp) (by omega) (by omega)).mono ?_
          rintro e wc ⟨vc, rfl, hRc, hbc⟩
          have hk3 : Below w1.heap.size w1 wc := below_then (below_drew (Below.refl w1.heap.size w1)) (Nat.le_refl _) hbc
          obtain ⟨Ac, cc, rfl, hlec, hCc⟩ := Kd.R_reads hRc
          simp only [adB, List.length_append, List.length_cons, List.length_nil, Nat.reduceAdd] at hlec hCc ⊢
          refine hK.out _ _ ?_ (fun hHeld => ?_)
          · (refine (fun hK : Below w1.heap.size w1 _ => ⟨pw_cell_below hK p4, pw_cell_below hK p5⟩) ?_; (first | assumption | exact Below.refl _ _ | (refine below_drew ?_; first | assumption | exact Below.refl _ _)))
          clear hK K
          try simp only [Act.put, List.getElem_toArray, List.getElem_cons_zero, List.getElem_cons_succ, List.setIfInBounds_toArray, List.set_cons_zero, List.set_cons_succ]
          refine wpAnyH_ready (rs := [6]) (by kernel_rfl) (by simp) ?_
          refine AllReadyH.cons rfl (fun K hK => ?_) ?_
          · go_simp
            refine (four_any Ac 16 cc ([69, 0, x0 / 256, x0 % 256, x1 / 256, x1 % 256, 0, 0, x2, x3, 0, 0] ++ adB x4) x5 _ (Kd.C_below hCc (by first | exact Below.refl _ _ | exact below_drew (Below.refl _ _))) (by simp [adB]) (by omega) (by omega)).mono ?_
            rintro e wd ⟨vd, rfl, hRd, hbd⟩
            have hk4 : Below w1.heap.size w1 wd := reach_to hk3 hk3.size hbd
            obtain ⟨Ad, cd, rfl, hled, hCd⟩ := Kd.R_reads hRd
            simp only [adB, List.length_append, List.length_cons, List.length_nil, Nat.reduceAdd] at hled hCd ⊢
            refine hK.out _ _ ?_ (fun hHeld => ?_)
            · (refine (fun hK : Below w1.heap.size w1 _ => ⟨pw_cell_below hK p4, pw_cell_below hK p5⟩) ?_; (first | assumption | exact Below.refl _ _ | (refine below_drew ?_; first | assumption | exact Below.refl _ _)))
            clear hK K
            try simp only [Act.put, List.getElem_toArray, List.getElem_cons_zero, List.getElem_cons_succ, List.setIfInBounds_toArray, List.set_cons_zero, List.set_cons_succ]
            refine wpAnyH_ready (rs := [7]) (by kernel_rfl) (by simp) ?_
            refine AllReadyH.cons rfl (fun K hK => ?_) ?_
            · go_simp
              refine (refput_any Ad 20 cd ([69, 0, x0 / 256, x0 % 256, x1 / 256, x1 % 256, 0, 0, x2, x3, 0, 0] ++ adB x4 ++ adB x5) 10 _ (Kd.C_below hCd (by first | exact Below.refl _ _ | exact below_drew (Below.refl _ _))) HRB.out (by simp [adB])).mono ?_
              rintro e we ⟨ve, rfl, hRe, hbe⟩
              have hk5 : Below w1.heap.size w1 we := reach_to hk4 hk4.size hbe
              refine hK.out _ _ ?_ (fun hHeld => ?_)
              · (refine (fun hK : Below w1.heap.size w1 _ => ⟨pw_cell_below hK p4, pw_cell_below hK p5⟩) ?_; (first | assumption | exact Below.refl _ _ | (refine below_drew ?_; first | assumption | exact Below.refl _ _)))
              clear hK K
              try simp only [Act.put, List.getElem_toArray, List.getElem_cons_zero, List.getElem_cons_succ, List.setIfInBounds_toArray, List.set_cons_zero, List.set_cons_succ]
              refine wpAnyH_take (i := 8) (v := ?_) rfl (by kernel_rfl) (by kernel_rfl) (by kernel_rfl) (fun _ _ _ h => h) (Or.inl ⟨by rfl, ?_⟩) (by assumption) ?_
              rotate_left 1
              · intro w hSw; (try dsimp only at hSw); go_simp; try with_reducible rfl
              try simp only [Act.put, List.getElem_toArray, List.getElem_cons_zero, List.getElem_cons_succ, List.setIfInBounds_toArray, List.set_cons_zero, List.set_cons_succ]
              refine wpAnyH_take (i := 9) (v := ?_) rfl (by kernel_rfl) (by kernel_rfl) (by kernel_rfl) (fun _ _ _ h => h) (Or.inl ⟨by rfl, ?_⟩) (by assumption) ?_
              rotate_left 1
              · intro w hSw; (try dsimp only at hSw); go_simp; try with_reducible rfl
              try simp only [Act.put, List.getElem_toArray, List.getElem_cons_zero, List.getElem_cons_succ, List.setIfInBounds_toArray, List.set_cons_zero, List.set_cons_succ]
              refine wpAnyH_done (by kernel_rfl) ?_ _
              go_wp2
              go_ret2
              exact ⟨_, rfl, Kd.R_lower hRe (Nat.le_trans (below_then hBw hBw.size hb1).size hk4.size), below_then (below_then hBw hBw.size hb1) (below_then hBw hBw.size hb1).size hk5⟩
            · exact AllReadyH.nil
          · exact AllReadyH.nil
        · exact AllReadyH.nil
      · exact AllReadyH.nil
    · exact AllReadyH.nil
  · exact AllReadyH.nil
end Go.Proofs.YtbgbplbkombfjaaDoor
