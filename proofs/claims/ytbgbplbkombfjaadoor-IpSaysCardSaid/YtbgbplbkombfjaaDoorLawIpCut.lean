/- IpCut: the walk of the law. -/
import Derived.Test.YtbgbplbkombfjaaDoorLawIpFields
namespace Go.Proofs.YtbgbplbkombfjaaDoor
open Go.RowKit Go.Proofs.YtbgbplbkombfjaaDoorW.PrintWords SumPlain
set_option linter.unusedVariables false
set_option linter.unusedSimpArgs false
attribute [local go_sem] setCell_drewN alloc_drewN
theorem readL_short (l : List Int) (h : l.length < 20) : readL l = (noHdr, some 1) := by unfold readL; rw [if_pos h]
set_option maxHeartbeats 4000000 in
set_option maxRecDepth 100000 in
theorem ipCut_good (E : Nat → Addr) (h : Hdr) (cut : Int) (A : Option Addr) (n c : Nat) (l : List Int) (w : World) (hE : Errs ipErrs E w) (hw : h.wf) (hcut : (Lit.int .i64 cut).wf = true) (hr : Kd.C (Kd.int .u8) w A n l) (hby : Byt l) (hle : n ≤ c) (hk : h.ok) (hn40 : n ≤ 40) :
    Calls Tryd.prog 6 #[.agg h.cells, .int .i64 cut, .slice A n c] w fun e w' => e = .returned (.bool true) ∧ Below w.heap.size w w' := by
  have hu := Tryd.underlying25
  have hgd := ipBytes_good h
  have hrd := readL_hdrL h hk hw l
  have hhp := hopL_hdrL h hk hw l
  have hbyt := hdrL_byt h hk hw
  have hln := hdrL_length h
  have hok := hk
  obtain ⟨x0, x1, x2, x3, x4, x5⟩ := h
  obtain ⟨⟨k0, k0'⟩, ⟨k1, k1'⟩, ⟨k2, k2'⟩, k3, k3'⟩ := hok
  simp only at k0 k0' k1 k1' k2 k2' k3 k3' hhp
  have hl40 : l.length ≤ 40 := by rw [hr.1]; exact hn40
  have HW := Aside0.mk (And.intro hw (And.intro hk (And.intro hE (And.intro hr (And.intro hby (And.intro hrd (And.intro hhp (And.intro hbyt (And.intro hln hl40)))))))))
  have HG := Aside0.mk hgd
  have HC := Aside0.mk hcut
  have hm0 : 0 ≤ cut % 20 := by omega
  have hm1 : cut % 20 < 20 := by omega
  simp only [Hdr.cells]
  clear hw hE hk hr hby hrd hhp hbyt hln hgd hcut hl40
  generalize hcm : cut % 20 = m at *
  have HM := Aside0.mk hcm
  clear hcm
  obtain ⟨W, hW⟩ : ∃ W, W = w.alloc (.cells #[.int .i64 x0, .int .i64 x1, .int .i64 x2, .int .i64 x3, .int .u32 x4, .int .u32 x5] 25) := ⟨_, rfl⟩
  have hb0 : Below w.heap.size w W := by rw [hW]; exact below_alloc (Below.refl _ _) _
  have hh : W.heap[w.heap.size]? = some (.cells #[.int .i64 x0, .int .i64 x1, .int .i64 x2, .int .i64 x3, .int .u32 x4, .int .u32 x5] 25 (0, 0)) := by rw [hW]; exact heap_alloc_new w _
  have HS := Aside0.mk (And.intro hb0 hh)
  have HX := Aside0.mk hW
  clear hb0 hh hW
  go_enter Tryd.func6, Tryd.ntmps6
  go_wp2_with fail
  have hW := HX.out
  rw [← hW]
  clear HX hW
  obtain ⟨hb0, hh⟩ := HS.out
  clear HS
  obtain ⟨b, hb⟩ : ∃ b, b = w.heap.size := ⟨_, rfl⟩
  rw [← hb] at hh ⊢
  clear hb
  have hE1 := HW.out.2.2.1.below hb0
  refine (first3_any E W hE1).mono ?_
  rintro e w2 ⟨rfl, hb2⟩
  have hB2 := reach_to hb0 hb0.size hb2
  replace hh := blk_below hh hb2
  have hE2 := hE1.below hb2
  clear hb0 hE1 hb2
  have p0 := (blk_cell hh 0).trans rfl
  have p1 := (blk_cell hh 1).trans rfl
  have p2 := (blk_cell hh 2).trans rfl
  have p3 := (blk_cell hh 3).trans rfl
  have p4 := (blk_cell hh 4).trans rfl
  have p5 := (blk_cell hh 5).trans rfl
  have HQ := Aside0.mk (And.intro hh (And.intro hB2 hE2))
  clear hh hB2 hE2
  go_wp2_with fail
  clear p0 p1 p2 p3 p4 p5
  refine (HG.out w2 HW.out.2.1 HW.out.1).mono ?_
  rintro e w3 ⟨v, rfl, hR, hb3⟩
  obtain ⟨hh, hB2, hE2⟩ := HQ.out
  obtain ⟨g1, c1, rfl, _⟩ := R_form hR (by rw [HW.out.2.2.2.2.2.2.2.2.1]; omega)
  have hlc := (R_C hR).1
  rw [HW.out.2.2.2.2.2.2.2.2.1] at hlc hR ⊢
  replace hh := blk_below hh hb3
  have hE3 := hE2.below hb3
  have hB3 := reach_to hB2 hB2.size hb3
  have hC3 := (R_C hR).2
  clear hE2 hB2 hb3 HQ
  have hct := cut_to (P := Tryd.prog) 26 5 .i64 Tryd.underlying26 Tryd.infoB (some ⟨g1, 0, none⟩) 20 c1 m m.toNat (by omega) (by omega)
  have HQ := Aside0.mk (And.intro hh (And.intro hB3 (And.intro hE3 hC3)))
  clear hh hB3 hE3 hC3 hR
  go_wp2_with fail
  refine (number_any cut 20 _ (by omega) (by omega) HC.out).mono ?_
  rintro e w4 ⟨rfl, rfl⟩
  rw [HM.out]
  go_wp2_with fail
  clear hct
  refine (ipRead_any E (some ⟨g1, 0, none⟩) m.toNat c1 _ w3 HQ.out.2.2.1 (C_take' HQ.out.2.2.2 (by omega)) (byt_take HW.out.2.2.2.2.2.2.2.1 _) (by omega) (by omega)).mono ?_
  rintro e w5 ⟨rfl, hb5⟩
  rw [readL_short _ (by rw [List.length_take]; omega)]
  simp only [errV, Hdr.cells]
  obtain ⟨hh, hB3, hE3, hC3⟩ := HQ.out
  have hb5' := below_alloc hb5 (.cells #[.int .i64 0, .int .i64 0, .int .i64 0, .int .i64 0, .int .u32 0, .int .u32 0] 25)
  replace hh := blk_below hh hb5'
  have hE5 := hE3.below hb5'
  have hB5 := reach_to hB3 hB3.size hb5'
  have hC5 := Kd.C_below hC3 hb5'
  clear hE3 hB3 hC3 hb5 hb5' HQ
  have HQ := Aside0.mk (And.intro hh (And.intro hB5 (And.intro hE5 hC5)))
  clear hh hB5 hE5 hC5
  go_wp2_with fail
  obtain ⟨hh, hB5, hE5, hC5⟩ := HQ.out
  clear HQ
  generalize w5.alloc (.cells #[.int .i64 0, .int .i64 0, .int .i64 0, .int .i64 0, .int .u32 0, .int .u32 0] 25) = W5 at *
  have hm5 := Kd.C_below HW.out.2.2.2.1 hB5
  refine (bytes_any (some ⟨g1, 0, none⟩) 20 c1 _ W5 hC5 (by rw [HW.out.2.2.2.2.2.2.2.2.1]; omega)).mono ?_
  rintro e w6 ⟨v6, rfl, hR6, hb6⟩
  have HQ := Aside0.mk (And.intro hh (And.intro hE5 (And.intro hC5 (And.intro hm5 hB5))))
  have HB6 := Aside0.mk (And.intro hR6 (And.intro hb6 (Kd.C_below hm5 hb6)))
  clear hh hB5 hE5 hC5 hm5 hR6 hb6
  go_wp2_with (at_builtin; refine Kd.R_append_row (w0 := W5) (Value.int .u8) 0 W5.heap.size rfl (.tmp 42) (.tmp 43) 26 5 (.int .u8 0) 1 rfl Tryd.underlying26 Tryd.infoB rfl (by decide) v6 (hdrL ⟨x0, x1, x2, x3, x4, x5⟩) l A n c (fun _ => True) (by rfl) (by rfl) (fun _ _ => trivial) HB6.out.1 HB6.out.2.2 HB6.out.2.1 (HB6.out.2.1.size) ?_ ?_)
  · rw [HW.out.2.2.2.2.2.2.2.2.1]; have := HW.out.2.2.2.2.2.2.2.2.2; omega
  intro v7 w7 hR7 hB7 _ _
  obtain ⟨hh, hE5, hC5, hm5, hB5⟩ := HQ.out
  replace hh := blk_below hh hB7
  have hE7 := hE5.below hB7
  have hC7 := Kd.C_below hC5 hB7
  have hm7 := Kd.C_below hm5 hB7
  have hB7' := reach_to hB5 hB5.size hB7
  clear HQ HB6 hE5 hC5 hm5 hB5 hB7
  obtain ⟨A7, c7, rfl, hle7, hCC⟩ := Kd.R_reads hR7
  have hll : (hdrL ⟨x0, x1, x2, x3, x4, x5⟩ ++ l).length ≤ 1000000 := by rw [List.length_append, HW.out.2.2.2.2.2.2.2.2.1]; have := HW.out.2.2.2.2.2.2.2.2.2; omega
  generalize hN : (hdrL ⟨x0, x1, x2, x3, x4, x5⟩ ++ l).length = N7 at *
  have HNN7 := Aside0.mk hN
  clear hN
  have HLN := Aside0.mk hll
  have HQ := Aside0.mk (And.intro hh (And.intro hE7 (And.intro hC7 (And.intro hm7 (And.intro hB7' (And.intro hCC hle7))))))
  clear hh hE7 hC7 hm7 hB7' hCC hR7 hle7 hll
  go_wp2_with fail
  refine (ipRead_any E A7 N7 c7 (hdrL ⟨x0, x1, x2, x3, x4, x5⟩ ++ l) w7 HQ.out.2.1 HQ.out.2.2.2.2.2.1 (byt_append HW.out.2.2.2.2.2.2.2.1 HW.out.2.2.2.2.1) HQ.out.2.2.2.2.2.2 HLN.out).mono ?_
  rintro e w8 ⟨rfl, hb8⟩
  rw [HW.out.2.2.2.2.2.1]
  simp only [errV, Hdr.cells]
  obtain ⟨hh, hE7, hC7, hm7, hB7, _, _⟩ := HQ.out
  clear HQ HLN
  have hb8' := below_alloc hb8 (.cells #[.int .i64 x0, .int .i64 x1, .int .i64 x2, .int .i64 x3, .int .u32 x4, .int .u32 x5] 25)
  have hx8 := heap_alloc_new w8 (.cells #[.int .i64 x0, .int .i64 x1, .int .i64 x2, .int .i64 x3, .int .u32 x4, .int .u32 x5] 25)
  replace hh := blk_below hh hb8'
  have hE8 := hE7.below hb8'
  have hC8 := Kd.C_below hC7 hb8'
  have hm8 := Kd.C_below hm7 hb8'
  have hB8 := reach_to hB7 hB7.size hb8'
  clear hE7 hC7 hm7 hB7 hb8 hb8'
  have HQ := Aside0.mk (And.intro hh (And.intro hE8 (And.intro hC8 (And.intro hm8 (And.intro hB8 hx8)))))
  clear hh hE8 hC8 hm8 hB8 hx8
  go_wp2_with fail
  obtain ⟨hh, hE8, hC8, hm8, hB8, hx8⟩ := HQ.out
  clear HQ
  generalize w8.alloc (.cells #[.int .i64 x0, .int .i64 x1, .int .i64 x2, .int .i64 x3, .int .u32 x4, .int .u32 x5] 25) = W8 at *
  obtain ⟨b8, hb8⟩ : ∃ b8, b8 = w8.heap.size := ⟨_, rfl⟩
  rw [← hb8] at hx8 ⊢
  clear hb8
  refine (bytes_any (some ⟨g1, 0, none⟩) 20 c1 _ W8 hC8 (by rw [HW.out.2.2.2.2.2.2.2.2.1]; omega)).mono ?_
  rintro e w9 ⟨v9, rfl, hR9, hb9⟩
  have HQ := Aside0.mk (And.intro hh (And.intro hE8 (And.intro hx8 hB8)))
  have HB9 := Aside0.mk (And.intro hR9 (And.intro hb9 (Kd.C_below hm8 hb9)))
  clear hh hE8 hC8 hm8 hB8 hx8 hR9 hb9
  go_wp2_with (at_builtin; refine Kd.R_append_row (w0 := W8) (Value.int .u8) 0 W8.heap.size rfl (.tmp 50) (.tmp 51) 26 5 (.int .u8 0) 1 rfl Tryd.underlying26 Tryd.infoB rfl (by decide) v9 (hdrL ⟨x0, x1, x2, x3, x4, x5⟩) l A n c (fun _ => True) (by rfl) (by rfl) (fun _ _ => trivial) HB9.out.1 HB9.out.2.2 HB9.out.2.1 (HB9.out.2.1.size) ?_ ?_)
  · rw [HW.out.2.2.2.2.2.2.2.2.1]; have := HW.out.2.2.2.2.2.2.2.2.2; omega
  intro v10 w10 hR10 hB10 _ _
  obtain ⟨hh, hE8, hx8, hB8⟩ := HQ.out
  replace hh := blk_below hh hB10
  replace hx8 := blk_below hx8 hB10
  have hE10 := hE8.below hB10
  have hB10' := reach_to hB8 hB8.size hB10
  clear HQ HB9 hE8 hB8 hB10
  obtain ⟨A10, c10, rfl, hle10, hCC⟩ := Kd.R_reads hR10
  have hll : (hdrL ⟨x0, x1, x2, x3, x4, x5⟩ ++ l).length ≤ 1000000 := by rw [List.length_append, HW.out.2.2.2.2.2.2.2.2.1]; have := HW.out.2.2.2.2.2.2.2.2.2; omega
  generalize hN : (hdrL ⟨x0, x1, x2, x3, x4, x5⟩ ++ l).length = N10 at *
  have HNN10 := Aside0.mk hN
  clear hN
  have HQ := Aside0.mk (And.intro hh (And.intro hE10 (And.intro hx8 (And.intro hB10' (And.intro hCC (And.intro hle10 hll))))))
  clear hh hE10 hx8 hB10' hCC hR10 hle10 hll
  go_wp2_with fail
  refine (ipHop_any E A10 N10 c10 (hdrL ⟨x0, x1, x2, x3, x4, x5⟩ ++ l) w10 HQ.out.2.1 HQ.out.2.2.2.2.1 (byt_append HW.out.2.2.2.2.2.2.2.1 HW.out.2.2.2.2.1) HQ.out.2.2.2.2.2.1 HQ.out.2.2.2.2.2.2).mono ?_
  rintro e w11 ⟨v11, rfl, hR11, hb11⟩
  rw [HW.out.2.2.2.2.2.2.1] at hR11 ⊢
  obtain ⟨hh, hE10, hx8, hB10, _, _, _⟩ := HQ.out
  clear HQ
  replace hh := blk_below hh hb11
  replace hx := blk_below hx8 hb11
  have hB11 := reach_to hB10 hB10.size hb11
  clear hE10 hx8 hB10 hb11
  by_cases hp : x2 = 0
  · subst hp
    rw [if_pos rfl] at hR11 ⊢
    simp only [errV] at hR11 ⊢
    have p0 := (blk_cell hh 0).trans rfl
    have p1 := (blk_cell hh 1).trans rfl
    have p2 := (blk_cell hh 2).trans rfl
    have p3 := (blk_cell hh 3).trans rfl
    have p4 := (blk_cell hh 4).trans rfl
    have p5 := (blk_cell hh 5).trans rfl
    have q0 := (blk_cell hx 0).trans rfl
    have q1 := (blk_cell hx 1).trans rfl
    have q2 := (blk_cell hx 2).trans rfl
    have q3 := (blk_cell hx 3).trans rfl
    have q4 := (blk_cell hx 4).trans rfl
    have q5 := (blk_cell hx 5).trans rfl
    have HB11 := Aside0.mk hB11
    clear hh hx hB11 hR11
    go_wp2_with fail
    refine wp_region_held_drew (S := (fun w' => w'.cell? ⟨b, 0, none⟩ = some (.int .i64 x0) ∧ w'.cell? ⟨b, 1, none⟩ = some (.int .i64 x1) ∧ w'.cell? ⟨b, 2, none⟩ = some (.int .i64 0) ∧ w'.cell? ⟨b, 3, none⟩ = some (.int .i64 x3) ∧ w'.cell? ⟨b, 4, none⟩ = some (.int .u32 x4) ∧ w'.cell? ⟨b, 5, none⟩ = some (.int .u32 x5) ∧ w'.cell? ⟨b8, 0, none⟩ = some (.int .i64 x0) ∧ w'.cell? ⟨b8, 1, none⟩ = some (.int .i64 x1) ∧ w'.cell? ⟨b8, 2, none⟩ = some (.int .i64 0) ∧ w'.cell? ⟨b8, 3, none⟩ = some (.int .i64 x3) ∧ w'.cell? ⟨b8, 4, none⟩ = some (.int .u32 x4) ∧ w'.cell? ⟨b8, 5, none⟩ = some (.int .u32 x5))) (by kernel_rfl) ?_ (fun hHeld => ?_)
    · (refine (fun hK : Below w11.heap.size w11 _ => ⟨pw_cell_below hK p0, pw_cell_below hK p1, pw_cell_below hK p2, pw_cell_below hK p3, pw_cell_below hK p4, pw_cell_below hK p5, pw_cell_below hK q0, pw_cell_below hK q1, pw_cell_below hK q2, pw_cell_below hK q3, pw_cell_below hK q4, pw_cell_below hK q5⟩) ?_; repeat' (first | assumption | exact Below.refl _ _ | (refine below_drew ?_) | (refine pw_below_drewN ?_ _)))
    refine wpAnyH_take (i := 0) (v := ?_) rfl (by kernel_rfl) (by kernel_rfl) (by kernel_rfl) (fun _ _ _ h => h) (Or.inl ⟨by rfl, ?_⟩) (by assumption) ?_
    rotate_left 1
    · intro w hSw; (try dsimp only at hSw); go_simp; try with_reducible rfl
    try simp only [Act.put, List.getElem_toArray, List.getElem_cons_zero, List.getElem_cons_succ, List.setIfInBounds_toArray, List.set_cons_zero, List.set_cons_succ]
    refine wpAnyH_take (i := 1) (v := ?_) rfl (by kernel_rfl) (by kernel_rfl) (by kernel_rfl) (fun _ _ _ h => h) (Or.inl ⟨by rfl, ?_⟩) (by assumption) ?_
    rotate_left 1
    · intro w hSw; (try dsimp only at hSw); go_simp; try with_reducible rfl
    try simp only [Act.put, List.getElem_toArray, List.getElem_cons_zero, List.getElem_cons_succ, List.setIfInBounds_toArray, List.set_cons_zero, List.set_cons_succ]
    refine wpAnyH_take (i := 2) (v := ?_) rfl (by kernel_rfl) (by kernel_rfl) (by kernel_rfl) (fun _ _ _ h => h) (Or.inl ⟨by rfl, ?_⟩) (by assumption) ?_
    rotate_left 1
    · intro w hSw; (try dsimp only at hSw); go_simp; try with_reducible rfl
    try simp only [Act.put, List.getElem_toArray, List.getElem_cons_zero, List.getElem_cons_succ, List.setIfInBounds_toArray, List.set_cons_zero, List.set_cons_succ]
    refine wpAnyH_take (i := 3) (v := ?_) rfl (by kernel_rfl) (by kernel_rfl) (by kernel_rfl) (fun _ _ _ h => h) (Or.inl ⟨by rfl, ?_⟩) (by assumption) ?_
    rotate_left 1
    · intro w hSw; (try dsimp only at hSw); go_simp; try with_reducible rfl
    try simp only [Act.put, List.getElem_toArray, List.getElem_cons_zero, List.getElem_cons_succ, List.setIfInBounds_toArray, List.set_cons_zero, List.set_cons_succ]
    refine wpAnyH_take (i := 4) (v := ?_) rfl (by kernel_rfl) (by kernel_rfl) (by kernel_rfl) (fun _ _ _ h => h) (Or.inl ⟨by rfl, ?_⟩) (by assumption) ?_
    rotate_left 1
    · intro w hSw; (try dsimp only at hSw); go_simp; try with_reducible rfl
    try simp only [Act.put, List.getElem_toArray, List.getElem_cons_zero, List.getElem_cons_succ, List.setIfInBounds_toArray, List.set_cons_zero, List.set_cons_succ]
    refine wpAnyH_take (i := 5) (v := ?_) rfl (by kernel_rfl) (by kernel_rfl) (by kernel_rfl) (fun _ _ _ h => h) (Or.inl ⟨by rfl, ?_⟩) (by assumption) ?_
    rotate_left 1
    · intro w hSw; (try dsimp only at hSw); go_simp; try with_reducible rfl
    try simp only [Act.put, List.getElem_toArray, List.getElem_cons_zero, List.getElem_cons_succ, List.setIfInBounds_toArray, List.set_cons_zero, List.set_cons_succ]
    refine wpAnyH_take (i := 6) (v := ?_) rfl (by kernel_rfl) (by kernel_rfl) (by kernel_rfl) (fun _ _ _ h => h) (Or.inl ⟨by rfl, ?_⟩) (by assumption) ?_
    rotate_left 1
    · intro w hSw; (try dsimp only at hSw); go_simp; try with_reducible rfl
    try simp only [Act.put, List.getElem_toArray, List.getElem_cons_zero, List.getElem_cons_succ, List.setIfInBounds_toArray, List.set_cons_zero, List.set_cons_succ]
    refine wpAnyH_take (i := 7) (v := ?_) rfl (by kernel_rfl) (by kernel_rfl) (by kernel_rfl) (fun _ _ _ h => h) (Or.inl ⟨by rfl, ?_⟩) (by assumption) ?_
    rotate_left 1
    · intro w hSw; (try dsimp only at hSw); go_simp; try with_reducible rfl
    try simp only [Act.put, List.getElem_toArray, List.getElem_cons_zero, List.getElem_cons_succ, List.setIfInBounds_toArray, List.set_cons_zero, List.set_cons_succ]
    refine wpAnyH_take (i := 8) (v := ?_) rfl (by kernel_rfl) (by kernel_rfl) (by kernel_rfl) (fun _ _ _ h => h) (Or.inl ⟨by rfl, ?_⟩) (by assumption) ?_
    rotate_left 1
    · intro w hSw; (try dsimp only at hSw); go_simp; try with_reducible rfl
    try simp only [Act.put, List.getElem_toArray, List.getElem_cons_zero, List.getElem_cons_succ, List.setIfInBounds_toArray, List.set_cons_zero, List.set_cons_succ]
    refine wpAnyH_take (i := 9) (v := ?_) rfl (by kernel_rfl) (by kernel_rfl) (by kernel_rfl) (fun _ _ _ h => h) (Or.inl ⟨by rfl, ?_⟩) (by assumption) ?_
    rotate_left 1
    · intro w hSw; (try dsimp only at hSw); go_simp; try with_reducible rfl
    try simp only [Act.put, List.getElem_toArray, List.getElem_cons_zero, List.getElem_cons_succ, List.setIfInBounds_toArray, List.set_cons_zero, List.set_cons_succ]
    refine wpAnyH_take (i := 10) (v := ?_) rfl (by kernel_rfl) (by kernel_rfl) (by kernel_rfl) (fun _ _ _ h => h) (Or.inl ⟨by rfl, ?_⟩) (by assumption) ?_
    rotate_left 1
    · intro w hSw; (try dsimp only at hSw); go_simp; try with_reducible rfl
    try simp only [Act.put, List.getElem_toArray, List.getElem_cons_zero, List.getElem_cons_succ, List.setIfInBounds_toArray, List.set_cons_zero, List.set_cons_succ]
    refine wpAnyH_take (i := 11) (v := ?_) rfl (by kernel_rfl) (by kernel_rfl) (by kernel_rfl) (fun _ _ _ h => h) (Or.inl ⟨by rfl, ?_⟩) (by assumption) ?_
    rotate_left 1
    · intro w hSw; (try dsimp only at hSw); go_simp; try with_reducible rfl
    try simp only [Act.put, List.getElem_toArray, List.getElem_cons_zero, List.getElem_cons_succ, List.setIfInBounds_toArray, List.set_cons_zero, List.set_cons_succ]
    refine wpAnyH_ready (rs := [12]) (by kernel_rfl) (by simp) ?_
    refine AllReadyH.cons rfl (fun K hK => ?_) ?_
    · go_simp
      refine (other3_any ⟨x0, x1, 0, x3, x4, x5⟩ _).mono ?_
      rintro e wb ⟨rfl, hbb⟩
      have hk1 : Below w11.heap.size w11 wb := reach_to (below_drew (Below.refl _ _)) (Nat.le_refl _) hbb
      refine hK.out _ _ ?_ (fun hHeld => ?_)
      · (refine (fun hK : Below w11.heap.size w11 _ => ⟨pw_cell_below hK p0, pw_cell_below hK p1, pw_cell_below hK p2, pw_cell_below hK p3, pw_cell_below hK p4, pw_cell_below hK p5, pw_cell_below hK q0, pw_cell_below hK q1, pw_cell_below hK q2, pw_cell_below hK q3, pw_cell_below hK q4, pw_cell_below hK q5⟩) ?_; repeat' (first | assumption | exact Below.refl _ _ | (refine below_drew ?_) | (refine pw_below_drewN ?_ _)))
      clear hK K
      try simp only [Act.put, List.getElem_toArray, List.getElem_cons_zero, List.getElem_cons_succ, List.setIfInBounds_toArray, List.set_cons_zero, List.set_cons_succ]
      refine wpAnyH_ready (rs := [13]) (by kernel_rfl) (by simp) ?_
      refine AllReadyH.cons rfl (fun K hK => ?_) ?_
      · go_simp
        refine (same3_yes ⟨x0, x1, 0, x3, x4, x5⟩ _).mono ?_
        rintro e wc ⟨rfl, hbc⟩
        have hk2 : Below w11.heap.size w11 wc := reach_to hk1 hk1.size hbc
        refine hK.out _ _ ?_ (fun hHeld => ?_)
        · (refine (fun hK : Below w11.heap.size w11 _ => ⟨pw_cell_below hK p0, pw_cell_below hK p1, pw_cell_below hK p2, pw_cell_below hK p3, pw_cell_below hK p4, pw_cell_below hK p5, pw_cell_below hK q0, pw_cell_below hK q1, pw_cell_below hK q2, pw_cell_below hK q3, pw_cell_below hK q4, pw_cell_below hK q5⟩) ?_; repeat' (first | assumption | exact Below.refl _ _ | (refine below_drew ?_) | (refine pw_below_drewN ?_ _)))
        clear hK K
        try simp only [Act.put, List.getElem_toArray, List.getElem_cons_zero, List.getElem_cons_succ, List.setIfInBounds_toArray, List.set_cons_zero, List.set_cons_succ]
        refine wpAnyH_take (i := 14) (v := ?_) rfl (by kernel_rfl) (by kernel_rfl) (by kernel_rfl) (fun _ _ _ h => h) (Or.inl ⟨by rfl, ?_⟩) (by assumption) ?_
        rotate_left 1
        · intro w hSw; (try dsimp only at hSw); go_simp; try with_reducible rfl
        try simp only [Act.put, List.getElem_toArray, List.getElem_cons_zero, List.getElem_cons_succ, List.setIfInBounds_toArray, List.set_cons_zero, List.set_cons_succ]
        refine wpAnyH_take (i := 15) (v := ?_) rfl (by kernel_rfl) (by kernel_rfl) (by kernel_rfl) (fun _ _ _ h => h) (Or.inl ⟨by rfl, ?_⟩) (by assumption) ?_
        rotate_left 1
        · intro w hSw; (try dsimp only at hSw); go_simp; try with_reducible rfl
        try simp only [Act.put, List.getElem_toArray, List.getElem_cons_zero, List.getElem_cons_succ, List.setIfInBounds_toArray, List.set_cons_zero, List.set_cons_succ]
        refine wpAnyH_take (i := 16) (v := ?_) rfl (by kernel_rfl) (by kernel_rfl) (by kernel_rfl) (fun _ _ _ h => h) (Or.inl ⟨by rfl, ?_⟩) (by assumption) ?_
        rotate_left 1
        · intro w hSw; (try dsimp only at hSw); go_simp; try with_reducible rfl
        try simp only [Act.put, List.getElem_toArray, List.getElem_cons_zero, List.getElem_cons_succ, List.setIfInBounds_toArray, List.set_cons_zero, List.set_cons_succ]
        refine wpAnyH_take (i := 17) (v := ?_) rfl (by kernel_rfl) (by kernel_rfl) (by kernel_rfl) (fun _ _ _ h => h) (Or.inl ⟨by rfl, ?_⟩) (by assumption) ?_
        rotate_left 1
        · intro w hSw; (try dsimp only at hSw); go_simp; try with_reducible rfl
        try simp only [Act.put, List.getElem_toArray, List.getElem_cons_zero, List.getElem_cons_succ, List.setIfInBounds_toArray, List.set_cons_zero, List.set_cons_succ]
        refine wpAnyH_take (i := 18) (v := ?_) rfl (by kernel_rfl) (by kernel_rfl) (by kernel_rfl) (fun _ _ _ h => h) (Or.inl ⟨by rfl, ?_⟩) (by assumption) ?_
        rotate_left 1
        · intro w hSw; (try dsimp only at hSw); go_simp; try with_reducible rfl
        try simp only [Act.put, List.getElem_toArray, List.getElem_cons_zero, List.getElem_cons_succ, List.setIfInBounds_toArray, List.set_cons_zero, List.set_cons_succ]
        refine wpAnyH_take (i := 19) (v := ?_) rfl (by kernel_rfl) (by kernel_rfl) (by kernel_rfl) (fun _ _ _ h => h) (Or.inl ⟨by rfl, ?_⟩) (by assumption) ?_
        rotate_left 1
        · intro w hSw; (try dsimp only at hSw); go_simp; try with_reducible rfl
        try simp only [Act.put, List.getElem_toArray, List.getElem_cons_zero, List.getElem_cons_succ, List.setIfInBounds_toArray, List.set_cons_zero, List.set_cons_succ]
        refine wpAnyH_take (i := 20) (v := ?_) rfl (by kernel_rfl) (by kernel_rfl) (by kernel_rfl) (fun _ _ _ h => h) (Or.inl ⟨by rfl, ?_⟩) (by assumption) ?_
        rotate_left 1
        · intro w hSw; (try dsimp only at hSw); go_simp; try with_reducible rfl
        try simp only [Act.put, List.getElem_toArray, List.getElem_cons_zero, List.getElem_cons_succ, List.setIfInBounds_toArray, List.set_cons_zero, List.set_cons_succ]
        refine wpAnyH_take (i := 21) (v := ?_) rfl (by kernel_rfl) (by kernel_rfl) (by kernel_rfl) (fun _ _ _ h => h) (Or.inl ⟨by rfl, ?_⟩) (by assumption) ?_
        rotate_left 1
        · intro w hSw; (try dsimp only at hSw); go_simp; try with_reducible rfl
        try simp only [Act.put, List.getElem_toArray, List.getElem_cons_zero, List.getElem_cons_succ, List.setIfInBounds_toArray, List.set_cons_zero, List.set_cons_succ]
        refine wpAnyH_take (i := 22) (v := ?_) rfl (by kernel_rfl) (by kernel_rfl) (by kernel_rfl) (fun _ _ _ h => h) (Or.inl ⟨by rfl, ?_⟩) (by assumption) ?_
        rotate_left 1
        · intro w hSw; (try dsimp only at hSw); go_simp; try with_reducible rfl
        try simp only [Act.put, List.getElem_toArray, List.getElem_cons_zero, List.getElem_cons_succ, List.setIfInBounds_toArray, List.set_cons_zero, List.set_cons_succ]
        refine wpAnyH_take (i := 23) (v := ?_) rfl (by kernel_rfl) (by kernel_rfl) (by kernel_rfl) (fun _ _ _ h => h) (Or.inl ⟨by rfl, ?_⟩) (by assumption) ?_
        rotate_left 1
        · intro w hSw; (try dsimp only at hSw); go_simp; try with_reducible rfl
        try simp only [Act.put, List.getElem_toArray, List.getElem_cons_zero, List.getElem_cons_succ, List.setIfInBounds_toArray, List.set_cons_zero, List.set_cons_succ]
        refine wpAnyH_take (i := 24) (v := ?_) rfl (by kernel_rfl) (by kernel_rfl) (by kernel_rfl) (fun _ _ _ h => h) (Or.inl ⟨by rfl, ?_⟩) (by assumption) ?_
        rotate_left 1
        · intro w hSw; (try dsimp only at hSw); go_simp; try with_reducible rfl
        try simp only [Act.put, List.getElem_toArray, List.getElem_cons_zero, List.getElem_cons_succ, List.setIfInBounds_toArray, List.set_cons_zero, List.set_cons_succ]
        refine wpAnyH_take (i := 25) (v := ?_) rfl (by kernel_rfl) (by kernel_rfl) (by kernel_rfl) (fun _ _ _ h => h) (Or.inl ⟨by rfl, ?_⟩) (by assumption) ?_
        rotate_left 1
        · intro w hSw; (try dsimp only at hSw); go_simp; try with_reducible rfl
        try simp only [Act.put, List.getElem_toArray, List.getElem_cons_zero, List.getElem_cons_succ, List.setIfInBounds_toArray, List.set_cons_zero, List.set_cons_succ]
        refine wpAnyH_take (i := 26) (v := ?_) rfl (by kernel_rfl) (by kernel_rfl) (by kernel_rfl) (fun _ _ _ h => h) (Or.inl ⟨by rfl, ?_⟩) (by assumption) ?_
        rotate_left 1
        · intro w hSw; (try dsimp only at hSw); go_simp; try with_reducible rfl
        try simp only [Act.put, List.getElem_toArray, List.getElem_cons_zero, List.getElem_cons_succ, List.setIfInBounds_toArray, List.set_cons_zero, List.set_cons_succ]
        refine wpAnyH_take (i := 27) (v := undef) rfl (by kernel_rfl) (by kernel_rfl) (by kernel_rfl) (fun _ _ _ h => h) (Or.inr ⟨by rfl, rfl⟩) (by assumption) ?_
        try simp only [Act.put, List.getElem_toArray, List.getElem_cons_zero, List.getElem_cons_succ, List.setIfInBounds_toArray, List.set_cons_zero, List.set_cons_succ]
        refine wpAnyH_take (i := 28) (v := undef) rfl (by kernel_rfl) (by kernel_rfl) (by kernel_rfl) (fun _ _ _ h => h) (Or.inr ⟨by rfl, rfl⟩) (by assumption) ?_
        try simp only [Act.put, List.getElem_toArray, List.getElem_cons_zero, List.getElem_cons_succ, List.setIfInBounds_toArray, List.set_cons_zero, List.set_cons_succ]
        refine wpAnyH_take (i := 29) (v := undef) rfl (by kernel_rfl) (by kernel_rfl) (by kernel_rfl) (fun _ _ _ h => h) (Or.inr ⟨by rfl, rfl⟩) (by assumption) ?_
        try simp only [Act.put, List.getElem_toArray, List.getElem_cons_zero, List.getElem_cons_succ, List.setIfInBounds_toArray, List.set_cons_zero, List.set_cons_succ]
        refine wpAnyH_take (i := 30) (v := ?_) rfl (by kernel_rfl) (by kernel_rfl) (by kernel_rfl) (fun _ _ _ h => h) (Or.inl ⟨by rfl, ?_⟩) (by assumption) ?_
        rotate_left 1
        · intro w hSw; (try dsimp only at hSw); go_simp; try with_reducible rfl
        try simp only [Act.put, List.getElem_toArray, List.getElem_cons_zero, List.getElem_cons_succ, List.setIfInBounds_toArray, List.set_cons_zero, List.set_cons_succ]
        refine wpAnyH_take (i := 31) (v := ?_) rfl (by kernel_rfl) (by kernel_rfl) (by kernel_rfl) (fun _ _ _ h => h) (Or.inl ⟨by rfl, ?_⟩) (by assumption) ?_
        rotate_left 1
        · intro w hSw; (try dsimp only at hSw); go_simp; try with_reducible rfl
        try simp only [Act.put, List.getElem_toArray, List.getElem_cons_zero, List.getElem_cons_succ, List.setIfInBounds_toArray, List.set_cons_zero, List.set_cons_succ]
        refine wpAnyH_take (i := 32) (v := ?_) rfl (by kernel_rfl) (by kernel_rfl) (by kernel_rfl) (fun _ _ _ h => h) (Or.inl ⟨by rfl, ?_⟩) (by assumption) ?_
        rotate_left 1
        · intro w hSw; (try dsimp only at hSw); go_simp; try with_reducible rfl
        try simp only [Act.put, List.getElem_toArray, List.getElem_cons_zero, List.getElem_cons_succ, List.setIfInBounds_toArray, List.set_cons_zero, List.set_cons_succ]
        refine wpAnyH_done (by kernel_rfl) ?_ _
        go_wp2
        go_ret
        exact ⟨rfl, reach_to HB11.out HB11.out.size hk2⟩
      · exact AllReadyH.nil
    · exact AllReadyH.nil
  · have hpt : (x2 == 0) = false := beq_eq_false_iff_ne.2 (by omega)
    have hp1 : 1 ≤ x2 := by omega
    have hpd : decide (0 < x2) = true := decide_eq_true (by omega)
    rw [if_neg (show ¬ x2 = 0 by omega)] at hR11 ⊢
    simp only [errV] at hR11 ⊢
    obtain ⟨g11, c11, rfl, _⟩ := R_form hR11 (by rw [hdrL_length]; omega)
    simp only [hdrL_length] at hR11 ⊢
    have p0 := (blk_cell hh 0).trans rfl
    have p1 := (blk_cell hh 1).trans rfl
    have p2 := (blk_cell hh 2).trans rfl
    have p3 := (blk_cell hh 3).trans rfl
    have p4 := (blk_cell hh 4).trans rfl
    have p5 := (blk_cell hh 5).trans rfl
    have q0 := (blk_cell hx 0).trans rfl
    have q1 := (blk_cell hx 1).trans rfl
    have q2 := (blk_cell hx 2).trans rfl
    have q3 := (blk_cell hx 3).trans rfl
    have q4 := (blk_cell hx 4).trans rfl
    have q5 := (blk_cell hx 5).trans rfl
    have HB11 := Aside0.mk hB11
    clear hh hx hB11 hR11
    go_wp2_with fail
    refine wp_region_held_drew (S := (fun w' => w'.cell? ⟨b, 0, none⟩ = some (.int .i64 x0) ∧ w'.cell? ⟨b, 1, none⟩ = some (.int .i64 x1) ∧ w'.cell? ⟨b, 2, none⟩ = some (.int .i64 x2) ∧ w'.cell? ⟨b, 3, none⟩ = some (.int .i64 x3) ∧ w'.cell? ⟨b, 4, none⟩ = some (.int .u32 x4) ∧ w'.cell? ⟨b, 5, none⟩ = some (.int .u32 x5) ∧ w'.cell? ⟨b8, 0, none⟩ = some (.int .i64 x0) ∧ w'.cell? ⟨b8, 1, none⟩ = some (.int .i64 x1) ∧ w'.cell? ⟨b8, 2, none⟩ = some (.int .i64 x2) ∧ w'.cell? ⟨b8, 3, none⟩ = some (.int .i64 x3) ∧ w'.cell? ⟨b8, 4, none⟩ = some (.int .u32 x4) ∧ w'.cell? ⟨b8, 5, none⟩ = some (.int .u32 x5))) (by kernel_rfl) ?_ (fun hHeld => ?_)
    · (refine (fun hK : Below w11.heap.size w11 _ => ⟨pw_cell_below hK p0, pw_cell_below hK p1, pw_cell_below hK p2, pw_cell_below hK p3, pw_cell_below hK p4, pw_cell_below hK p5, pw_cell_below hK q0, pw_cell_below hK q1, pw_cell_below hK q2, pw_cell_below hK q3, pw_cell_below hK q4, pw_cell_below hK q5⟩) ?_; repeat' (first | assumption | exact Below.refl _ _ | (refine below_drew ?_) | (refine pw_below_drewN ?_ _)))
    refine wpAnyH_take (i := 0) (v := ?_) rfl (by kernel_rfl) (by kernel_rfl) (by kernel_rfl) (fun _ _ _ h => h) (Or.inl ⟨by rfl, ?_⟩) (by assumption) ?_
    rotate_left 1
    · intro w hSw; (try dsimp only at hSw); go_simp; try with_reducible rfl
    try simp only [Act.put, List.getElem_toArray, List.getElem_cons_zero, List.getElem_cons_succ, List.setIfInBounds_toArray, List.set_cons_zero, List.set_cons_succ]
    refine wpAnyH_take (i := 1) (v := ?_) rfl (by kernel_rfl) (by kernel_rfl) (by kernel_rfl) (fun _ _ _ h => h) (Or.inl ⟨by rfl, ?_⟩) (by assumption) ?_
    rotate_left 1
    · intro w hSw; (try dsimp only at hSw); go_simp; try with_reducible rfl
    try simp only [Act.put, List.getElem_toArray, List.getElem_cons_zero, List.getElem_cons_succ, List.setIfInBounds_toArray, List.set_cons_zero, List.set_cons_succ]
    refine wpAnyH_take (i := 2) (v := ?_) rfl (by kernel_rfl) (by kernel_rfl) (by kernel_rfl) (fun _ _ _ h => h) (Or.inl ⟨by rfl, ?_⟩) (by assumption) ?_
    rotate_left 1
    · intro w hSw; (try dsimp only at hSw); go_simp; try with_reducible rfl
    try simp only [Act.put, List.getElem_toArray, List.getElem_cons_zero, List.getElem_cons_succ, List.setIfInBounds_toArray, List.set_cons_zero, List.set_cons_succ]
    refine wpAnyH_take (i := 3) (v := ?_) rfl (by kernel_rfl) (by kernel_rfl) (by kernel_rfl) (fun _ _ _ h => h) (Or.inl ⟨by rfl, ?_⟩) (by assumption) ?_
    rotate_left 1
    · intro w hSw; (try dsimp only at hSw); go_simp; try with_reducible rfl
    try simp only [Act.put, List.getElem_toArray, List.getElem_cons_zero, List.getElem_cons_succ, List.setIfInBounds_toArray, List.set_cons_zero, List.set_cons_succ]
    refine wpAnyH_take (i := 4) (v := ?_) rfl (by kernel_rfl) (by kernel_rfl) (by kernel_rfl) (fun _ _ _ h => h) (Or.inl ⟨by rfl, ?_⟩) (by assumption) ?_
    rotate_left 1
    · intro w hSw; (try dsimp only at hSw); go_simp; try with_reducible rfl
    try simp only [Act.put, List.getElem_toArray, List.getElem_cons_zero, List.getElem_cons_succ, List.setIfInBounds_toArray, List.set_cons_zero, List.set_cons_succ]
    refine wpAnyH_take (i := 5) (v := ?_) rfl (by kernel_rfl) (by kernel_rfl) (by kernel_rfl) (fun _ _ _ h => h) (Or.inl ⟨by rfl, ?_⟩) (by assumption) ?_
    rotate_left 1
    · intro w hSw; (try dsimp only at hSw); go_simp; try with_reducible rfl
    try simp only [Act.put, List.getElem_toArray, List.getElem_cons_zero, List.getElem_cons_succ, List.setIfInBounds_toArray, List.set_cons_zero, List.set_cons_succ]
    refine wpAnyH_take (i := 6) (v := ?_) rfl (by kernel_rfl) (by kernel_rfl) (by kernel_rfl) (fun _ _ _ h => h) (Or.inl ⟨by rfl, ?_⟩) (by assumption) ?_
    rotate_left 1
    · intro w hSw; (try dsimp only at hSw); go_simp; try with_reducible rfl
    try simp only [Act.put, List.getElem_toArray, List.getElem_cons_zero, List.getElem_cons_succ, List.setIfInBounds_toArray, List.set_cons_zero, List.set_cons_succ]
    refine wpAnyH_take (i := 7) (v := ?_) rfl (by kernel_rfl) (by kernel_rfl) (by kernel_rfl) (fun _ _ _ h => h) (Or.inl ⟨by rfl, ?_⟩) (by assumption) ?_
    rotate_left 1
    · intro w hSw; (try dsimp only at hSw); go_simp; try with_reducible rfl
    try simp only [Act.put, List.getElem_toArray, List.getElem_cons_zero, List.getElem_cons_succ, List.setIfInBounds_toArray, List.set_cons_zero, List.set_cons_succ]
    refine wpAnyH_take (i := 8) (v := ?_) rfl (by kernel_rfl) (by kernel_rfl) (by kernel_rfl) (fun _ _ _ h => h) (Or.inl ⟨by rfl, ?_⟩) (by assumption) ?_
    rotate_left 1
    · intro w hSw; (try dsimp only at hSw); go_simp; try with_reducible rfl
    try simp only [Act.put, List.getElem_toArray, List.getElem_cons_zero, List.getElem_cons_succ, List.setIfInBounds_toArray, List.set_cons_zero, List.set_cons_succ]
    refine wpAnyH_take (i := 9) (v := ?_) rfl (by kernel_rfl) (by kernel_rfl) (by kernel_rfl) (fun _ _ _ h => h) (Or.inl ⟨by rfl, ?_⟩) (by assumption) ?_
    rotate_left 1
    · intro w hSw; (try dsimp only at hSw); go_simp; try with_reducible rfl
    try simp only [Act.put, List.getElem_toArray, List.getElem_cons_zero, List.getElem_cons_succ, List.setIfInBounds_toArray, List.set_cons_zero, List.set_cons_succ]
    refine wpAnyH_take (i := 10) (v := ?_) rfl (by kernel_rfl) (by kernel_rfl) (by kernel_rfl) (fun _ _ _ h => h) (Or.inl ⟨by rfl, ?_⟩) (by assumption) ?_
    rotate_left 1
    · intro w hSw; (try dsimp only at hSw); go_simp; try with_reducible rfl
    try simp only [Act.put, List.getElem_toArray, List.getElem_cons_zero, List.getElem_cons_succ, List.setIfInBounds_toArray, List.set_cons_zero, List.set_cons_succ]
    refine wpAnyH_take (i := 11) (v := ?_) rfl (by kernel_rfl) (by kernel_rfl) (by kernel_rfl) (fun _ _ _ h => h) (Or.inl ⟨by rfl, ?_⟩) (by assumption) ?_
    rotate_left 1
    · intro w hSw; (try dsimp only at hSw); go_simp; try with_reducible rfl
    try simp only [Act.put, List.getElem_toArray, List.getElem_cons_zero, List.getElem_cons_succ, List.setIfInBounds_toArray, List.set_cons_zero, List.set_cons_succ]
    refine wpAnyH_ready (rs := [12]) (by kernel_rfl) (by simp) ?_
    refine AllReadyH.cons rfl (fun K hK => ?_) ?_
    · go_simp
      refine (other3_any ⟨x0, x1, x2, x3, x4, x5⟩ _).mono ?_
      rintro e wb ⟨rfl, hbb⟩
      have hk1 : Below w11.heap.size w11 wb := reach_to (below_drew (Below.refl _ _)) (Nat.le_refl _) hbb
      refine hK.out _ _ ?_ (fun hHeld => ?_)
      · (refine (fun hK : Below w11.heap.size w11 _ => ⟨pw_cell_below hK p0, pw_cell_below hK p1, pw_cell_below hK p2, pw_cell_below hK p3, pw_cell_below hK p4, pw_cell_below hK p5, pw_cell_below hK q0, pw_cell_below hK q1, pw_cell_below hK q2, pw_cell_below hK q3, pw_cell_below hK q4, pw_cell_below hK q5⟩) ?_; repeat' (first | assumption | exact Below.refl _ _ | (refine below_drew ?_) | (refine pw_below_drewN ?_ _)))
      clear hK K
      try simp only [Act.put, List.getElem_toArray, List.getElem_cons_zero, List.getElem_cons_succ, List.setIfInBounds_toArray, List.set_cons_zero, List.set_cons_succ]
      refine wpAnyH_ready (rs := [13]) (by kernel_rfl) (by simp) ?_
      refine AllReadyH.cons rfl (fun K hK => ?_) ?_
      · go_simp
        refine (same3_yes ⟨x0, x1, x2, x3, x4, x5⟩ _).mono ?_
        rintro e wc ⟨rfl, hbc⟩
        have hk2 : Below w11.heap.size w11 wc := reach_to hk1 hk1.size hbc
        refine hK.out _ _ ?_ (fun hHeld => ?_)
        · (refine (fun hK : Below w11.heap.size w11 _ => ⟨pw_cell_below hK p0, pw_cell_below hK p1, pw_cell_below hK p2, pw_cell_below hK p3, pw_cell_below hK p4, pw_cell_below hK p5, pw_cell_below hK q0, pw_cell_below hK q1, pw_cell_below hK q2, pw_cell_below hK q3, pw_cell_below hK q4, pw_cell_below hK q5⟩) ?_; repeat' (first | assumption | exact Below.refl _ _ | (refine below_drew ?_) | (refine pw_below_drewN ?_ _)))
        clear hK K
        try simp only [Act.put, List.getElem_toArray, List.getElem_cons_zero, List.getElem_cons_succ, List.setIfInBounds_toArray, List.set_cons_zero, List.set_cons_succ]
        refine wpAnyH_take (i := 14) (v := ?_) rfl (by kernel_rfl) (by kernel_rfl) (by kernel_rfl) (fun _ _ _ h => h) (Or.inl ⟨by rfl, ?_⟩) (by assumption) ?_
        rotate_left 1
        · intro w hSw; (try dsimp only at hSw); go_simp; try with_reducible rfl
        try simp only [Act.put, List.getElem_toArray, List.getElem_cons_zero, List.getElem_cons_succ, List.setIfInBounds_toArray, List.set_cons_zero, List.set_cons_succ]
        refine wpAnyH_take (i := 15) (v := ?_) rfl (by kernel_rfl) (by kernel_rfl) (by kernel_rfl) (fun _ _ _ h => h) (Or.inl ⟨by rfl, ?_⟩) (by assumption) ?_
        rotate_left 1
        · intro w hSw; (try dsimp only at hSw); go_simp; try with_reducible rfl
        try simp only [Act.put, List.getElem_toArray, List.getElem_cons_zero, List.getElem_cons_succ, List.setIfInBounds_toArray, List.set_cons_zero, List.set_cons_succ]
        refine wpAnyH_take (i := 16) (v := ?_) rfl (by kernel_rfl) (by kernel_rfl) (by kernel_rfl) (fun _ _ _ h => h) (Or.inl ⟨by rfl, ?_⟩) (by assumption) ?_
        rotate_left 1
        · intro w hSw; (try dsimp only at hSw); go_simp; try with_reducible rfl
        try simp only [Act.put, List.getElem_toArray, List.getElem_cons_zero, List.getElem_cons_succ, List.setIfInBounds_toArray, List.set_cons_zero, List.set_cons_succ]
        refine wpAnyH_take (i := 17) (v := ?_) rfl (by kernel_rfl) (by kernel_rfl) (by kernel_rfl) (fun _ _ _ h => h) (Or.inl ⟨by rfl, ?_⟩) (by assumption) ?_
        rotate_left 1
        · intro w hSw; (try dsimp only at hSw); go_simp; try with_reducible rfl
        try simp only [Act.put, List.getElem_toArray, List.getElem_cons_zero, List.getElem_cons_succ, List.setIfInBounds_toArray, List.set_cons_zero, List.set_cons_succ]
        refine wpAnyH_take (i := 18) (v := ?_) rfl (by kernel_rfl) (by kernel_rfl) (by kernel_rfl) (fun _ _ _ h => h) (Or.inl ⟨by rfl, ?_⟩) (by assumption) ?_
        rotate_left 1
        · intro w hSw; (try dsimp only at hSw); go_simp; try with_reducible rfl
        try simp only [Act.put, List.getElem_toArray, List.getElem_cons_zero, List.getElem_cons_succ, List.setIfInBounds_toArray, List.set_cons_zero, List.set_cons_succ]
        refine wpAnyH_take (i := 19) (v := ?_) rfl (by kernel_rfl) (by kernel_rfl) (by kernel_rfl) (fun _ _ _ h => h) (Or.inl ⟨by rfl, ?_⟩) (by assumption) ?_
        rotate_left 1
        · intro w hSw; (try dsimp only at hSw); go_simp; try with_reducible rfl
        try simp only [Act.put, List.getElem_toArray, List.getElem_cons_zero, List.getElem_cons_succ, List.setIfInBounds_toArray, List.set_cons_zero, List.set_cons_succ]
        refine wpAnyH_take (i := 20) (v := ?_) rfl (by kernel_rfl) (by kernel_rfl) (by kernel_rfl) (fun _ _ _ h => h) (Or.inl ⟨by rfl, ?_⟩) (by assumption) ?_
        rotate_left 1
        · intro w hSw; (try dsimp only at hSw); go_simp; try with_reducible rfl
        try simp only [Act.put, List.getElem_toArray, List.getElem_cons_zero, List.getElem_cons_succ, List.setIfInBounds_toArray, List.set_cons_zero, List.set_cons_succ]
        refine wpAnyH_take (i := 21) (v := ?_) rfl (by kernel_rfl) (by kernel_rfl) (by kernel_rfl) (fun _ _ _ h => h) (Or.inl ⟨by rfl, ?_⟩) (by assumption) ?_
        rotate_left 1
        · intro w hSw; (try dsimp only at hSw); go_simp; try with_reducible rfl
        try simp only [Act.put, List.getElem_toArray, List.getElem_cons_zero, List.getElem_cons_succ, List.setIfInBounds_toArray, List.set_cons_zero, List.set_cons_succ]
        refine wpAnyH_take (i := 22) (v := ?_) rfl (by kernel_rfl) (by kernel_rfl) (by kernel_rfl) (fun _ _ _ h => h) (Or.inl ⟨by rfl, ?_⟩) (by assumption) ?_
        rotate_left 1
        · intro w hSw; (try dsimp only at hSw); go_simp; try with_reducible rfl
        try simp only [Act.put, List.getElem_toArray, List.getElem_cons_zero, List.getElem_cons_succ, List.setIfInBounds_toArray, List.set_cons_zero, List.set_cons_succ]
        refine wpAnyH_take (i := 23) (v := ?_) rfl (by kernel_rfl) (by kernel_rfl) (by kernel_rfl) (fun _ _ _ h => h) (Or.inl ⟨by rfl, ?_⟩) (by assumption) ?_
        rotate_left 1
        · intro w hSw; (try dsimp only at hSw); go_simp; try with_reducible rfl
        try simp only [Act.put, List.getElem_toArray, List.getElem_cons_zero, List.getElem_cons_succ, List.setIfInBounds_toArray, List.set_cons_zero, List.set_cons_succ]
        refine wpAnyH_take (i := 24) (v := ?_) rfl (by kernel_rfl) (by kernel_rfl) (by kernel_rfl) (fun _ _ _ h => h) (Or.inl ⟨by rfl, ?_⟩) (by assumption) ?_
        rotate_left 1
        · intro w hSw; (try dsimp only at hSw); go_simp; try with_reducible rfl
        try simp only [Act.put, List.getElem_toArray, List.getElem_cons_zero, List.getElem_cons_succ, List.setIfInBounds_toArray, List.set_cons_zero, List.set_cons_succ]
        refine wpAnyH_take (i := 25) (v := ?_) rfl (by kernel_rfl) (by kernel_rfl) (by kernel_rfl) (fun _ _ _ h => h) (Or.inl ⟨by rfl, ?_⟩) (by assumption) ?_
        rotate_left 1
        · intro w hSw; (try dsimp only at hSw); go_simp; try with_reducible rfl
        try simp only [Act.put, List.getElem_toArray, List.getElem_cons_zero, List.getElem_cons_succ, List.setIfInBounds_toArray, List.set_cons_zero, List.set_cons_succ]
        refine wpAnyH_take (i := 26) (v := ?_) rfl (by kernel_rfl) (by kernel_rfl) (by kernel_rfl) (fun _ _ _ h => h) (Or.inl ⟨by rfl, ?_⟩) (by assumption) ?_
        rotate_left 1
        · intro w hSw; (try dsimp only at hSw); go_simp; try with_reducible rfl
        try simp only [Act.put, List.getElem_toArray, List.getElem_cons_zero, List.getElem_cons_succ, List.setIfInBounds_toArray, List.set_cons_zero, List.set_cons_succ]
        refine wpAnyH_take (i := 27) (v := ?_) rfl (by kernel_rfl) (by kernel_rfl) (by kernel_rfl) (fun _ _ _ h => h) (Or.inl ⟨by rfl, ?_⟩) (by assumption) ?_
        rotate_left 1
        · intro w hSw; (try dsimp only at hSw); go_simp; try with_reducible rfl
        try simp only [Act.put, List.getElem_toArray, List.getElem_cons_zero, List.getElem_cons_succ, List.setIfInBounds_toArray, List.set_cons_zero, List.set_cons_succ]
        refine wpAnyH_take (i := 28) (v := ?_) rfl (by kernel_rfl) (by kernel_rfl) (by kernel_rfl) (fun _ _ _ h => h) (Or.inl ⟨by rfl, ?_⟩) (by assumption) ?_
        rotate_left 1
        · intro w hSw; (try dsimp only at hSw); go_simp; try with_reducible rfl
        try simp only [Act.put, List.getElem_toArray, List.getElem_cons_zero, List.getElem_cons_succ, List.setIfInBounds_toArray, List.set_cons_zero, List.set_cons_succ]
        refine wpAnyH_take (i := 29) (v := ?_) rfl (by kernel_rfl) (by kernel_rfl) (by kernel_rfl) (fun _ _ _ h => h) (Or.inl ⟨by rfl, ?_⟩) (by assumption) ?_
        rotate_left 1
        · intro w hSw; (try dsimp only at hSw); go_simp; try with_reducible rfl
        try simp only [Act.put, List.getElem_toArray, List.getElem_cons_zero, List.getElem_cons_succ, List.setIfInBounds_toArray, List.set_cons_zero, List.set_cons_succ]
        refine wpAnyH_take (i := 30) (v := ?_) rfl (by kernel_rfl) (by kernel_rfl) (by kernel_rfl) (fun _ _ _ h => h) (Or.inl ⟨by rfl, ?_⟩) (by assumption) ?_
        rotate_left 1
        · intro w hSw; (try dsimp only at hSw); go_simp; try with_reducible rfl
        try simp only [Act.put, List.getElem_toArray, List.getElem_cons_zero, List.getElem_cons_succ, List.setIfInBounds_toArray, List.set_cons_zero, List.set_cons_succ]
        refine wpAnyH_take (i := 31) (v := ?_) rfl (by kernel_rfl) (by kernel_rfl) (by kernel_rfl) (fun _ _ _ h => h) (Or.inl ⟨by rfl, ?_⟩) (by assumption) ?_
        rotate_left 1
        · intro w hSw; (try dsimp only at hSw); go_simp; try with_reducible rfl
        try simp only [Act.put, List.getElem_toArray, List.getElem_cons_zero, List.getElem_cons_succ, List.setIfInBounds_toArray, List.set_cons_zero, List.set_cons_succ]
        refine wpAnyH_take (i := 32) (v := ?_) rfl (by kernel_rfl) (by kernel_rfl) (by kernel_rfl) (fun _ _ _ h => h) (Or.inl ⟨by rfl, ?_⟩) (by assumption) ?_
        rotate_left 1
        · intro w hSw; (try dsimp only at hSw); go_simp; try with_reducible rfl
        try simp only [Act.put, List.getElem_toArray, List.getElem_cons_zero, List.getElem_cons_succ, List.setIfInBounds_toArray, List.set_cons_zero, List.set_cons_succ]
        refine wpAnyH_done (by kernel_rfl) ?_ _
        go_wp2
        go_ret
        exact ⟨rfl, reach_to HB11.out HB11.out.size hk2⟩
      · exact AllReadyH.nil
    · exact AllReadyH.nil

set_option maxHeartbeats 1000000 in
set_option maxRecDepth 100000 in
theorem ipCut_bad (E : Nat → Addr) (h : Hdr) (cut : Int) (A : Option Addr) (n c : Nat) (w : World) (hE : Errs ipErrs E w) (hw : h.wf) (hk : ¬ h.ok) :
    Calls Tryd.prog 6 #[.agg h.cells, .int .i64 cut, .slice A n c] w fun e w' => e = .returned (.bool true) ∧ Below w.heap.size w w' := by
  have hu := Tryd.underlying25
  obtain ⟨x0, x1, x2, x3, x4, x5⟩ := h
  have HW := Aside0.mk (And.intro hw (And.intro hE hk))
  simp only [Hdr.cells]
  clear hw hE hk
  obtain ⟨W, hW⟩ : ∃ W, W = w.alloc (.cells #[.int .i64 x0, .int .i64 x1, .int .i64 x2, .int .i64 x3, .int .u32 x4, .int .u32 x5] 25) := ⟨_, rfl⟩
  have hb0 : Below w.heap.size w W := by rw [hW]; exact below_alloc (Below.refl _ _) _
  have hh : W.heap[w.heap.size]? = some (.cells #[.int .i64 x0, .int .i64 x1, .int .i64 x2, .int .i64 x3, .int .u32 x4, .int .u32 x5] 25 (0, 0)) := by rw [hW]; exact heap_alloc_new w _
  have HS := Aside0.mk (And.intro hb0 hh)
  have HX := Aside0.mk hW
  clear hb0 hh hW
  go_enter Tryd.func6, Tryd.ntmps6
  go_wp2_with fail
  have hW := HX.out
  rw [← hW]
  clear HX hW
  obtain ⟨hb0, hh⟩ := HS.out
  clear HS
  obtain ⟨b, hb⟩ : ∃ b, b = w.heap.size := ⟨_, rfl⟩
  rw [← hb] at hh ⊢
  clear hb
  have hE1 := HW.out.2.1.below hb0
  refine (first3_any E W hE1).mono ?_
  rintro e w2 ⟨rfl, hb2⟩
  have hB2 := reach_to hb0 hb0.size hb2
  replace hh := blk_below hh hb2
  have hE2 := hE1.below hb2
  clear hb0 hE1 hb2
  have p0 := (blk_cell hh 0).trans rfl
  have p1 := (blk_cell hh 1).trans rfl
  have p2 := (blk_cell hh 2).trans rfl
  have p3 := (blk_cell hh 3).trans rfl
  have p4 := (blk_cell hh 4).trans rfl
  have p5 := (blk_cell hh 5).trans rfl
  have HQ := Aside0.mk (And.intro hB2 hE2)
  clear hh hB2 hE2
  go_wp2_with fail
  clear p0 p1 p2 p3 p4 p5
  refine (ipBytes_bad E ⟨x0, x1, x2, x3, x4, x5⟩ w2 (HQ.out.2.cell 0 (by simp [ipErrs])) HW.out.2.2).mono ?_
  rintro e w3 ⟨rfl, hb3⟩
  have hB3 := reach_to HQ.out.1 HQ.out.1.size hb3
  simp only [errV]
  go_wp2
  go_ret
  exact ⟨rfl, hB3⟩
set_option maxHeartbeats 1000000 in
set_option maxRecDepth 100000 in
theorem ipCut_long (E : Nat → Addr) (h : Hdr) (cut : Int) (A : Option Addr) (n c : Nat) (w : World) (hE : Errs ipErrs E w) (hw : h.wf) (hk : h.ok) (hn : ¬ n ≤ 40) (hn2 : n ≤ 9223372036854775807) :
    Calls Tryd.prog 6 #[.agg h.cells, .int .i64 cut, .slice A n c] w fun e w' => e = .returned (.bool true) ∧ Below w.heap.size w w' := by
  have hu := Tryd.underlying25
  obtain ⟨x0, x1, x2, x3, x4, x5⟩ := h
  have HW := Aside0.mk (And.intro hw (And.intro hE hk))
  simp only [Hdr.cells]
  clear hw hE hk
  obtain ⟨W, hW⟩ : ∃ W, W = w.alloc (.cells #[.int .i64 x0, .int .i64 x1, .int .i64 x2, .int .i64 x3, .int .u32 x4, .int .u32 x5] 25) := ⟨_, rfl⟩
  have hb0 : Below w.heap.size w W := by rw [hW]; exact below_alloc (Below.refl _ _) _
  have hh : W.heap[w.heap.size]? = some (.cells #[.int .i64 x0, .int .i64 x1, .int .i64 x2, .int .i64 x3, .int .u32 x4, .int .u32 x5] 25 (0, 0)) := by rw [hW]; exact heap_alloc_new w _
  have HS := Aside0.mk (And.intro hb0 hh)
  have HX := Aside0.mk hW
  clear hb0 hh hW
  go_enter Tryd.func6, Tryd.ntmps6
  go_wp2_with fail
  have hW := HX.out
  rw [← hW]
  clear HX hW
  obtain ⟨hb0, hh⟩ := HS.out
  clear HS
  obtain ⟨b, hb⟩ : ∃ b, b = w.heap.size := ⟨_, rfl⟩
  rw [← hb] at hh ⊢
  clear hb
  have hE1 := HW.out.2.1.below hb0
  refine (first3_any E W hE1).mono ?_
  rintro e w2 ⟨rfl, hb2⟩
  have hB2 := reach_to hb0 hb0.size hb2
  replace hh := blk_below hh hb2
  have hE2 := hE1.below hb2
  clear hb0 hE1 hb2
  have p0 := (blk_cell hh 0).trans rfl
  have p1 := (blk_cell hh 1).trans rfl
  have p2 := (blk_cell hh 2).trans rfl
  have p3 := (blk_cell hh 3).trans rfl
  have p4 := (blk_cell hh 4).trans rfl
  have p5 := (blk_cell hh 5).trans rfl
  have HQ := Aside0.mk (And.intro hB2 hE2)
  clear hh hB2 hE2
  go_wp2_with fail
  clear p0 p1 p2 p3 p4 p5
  have hd : decide (40 < (n : Int)) = true := decide_eq_true (by omega)
  refine (ipBytes_good ⟨x0, x1, x2, x3, x4, x5⟩ w2 HW.out.2.2 HW.out.1).mono ?_
  rintro e w3 ⟨v, rfl, hR, hb3⟩
  have hB3 := reach_to HQ.out.1 HQ.out.1.size hb3
  go_wp2
  go_ret
  exact ⟨rfl, hB3⟩
theorem ipCut_all (E : Nat → Addr) (h : Hdr) (cut : Int) (A : Option Addr) (n c : Nat) (l : List Int) (w : World) (hE : Errs ipErrs E w) (hw : h.wf) (hcut : (Lit.int .i64 cut).wf = true) (hr : Kd.C (Kd.int .u8) w A n l) (hby : Byt l) (hle : n ≤ c) :
    Calls Tryd.prog 6 #[.agg h.cells, .int .i64 cut, .slice A n c] w fun e w' => e = .returned (.bool true) ∧ Below w.heap.size w w' := by
  by_cases hk : h.ok
  · by_cases hn : n ≤ 40
    · exact ipCut_good E h cut A n c l w hE hw hcut hr hby hle hk hn
    · exact ipCut_long E h cut A n c w hE hw hk hn (Kd.C_max hr)
  · exact ipCut_bad E h cut A n c w hE hw hk
end Go.Proofs.YtbgbplbkombfjaaDoor
