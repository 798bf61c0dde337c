/- IpBack: the walk of the law. -/
import Derived.Test.YtbgbplbkombfjaaDoorLawIpCut
import Derived.Test.YtbgbplbkombfjaaDoorSee
import Derived.Test.YtbgbplbkombfjaaDoorFlip
namespace Go.Proofs.YtbgbplbkombfjaaDoor
open Go.RowKit Go.Proofs.YtbgbplbkombfjaaDoorW.PrintWords SumPlain
set_option linter.unusedVariables false
set_option linter.unusedSimpArgs false
attribute [local go_sem] setCell_drewN alloc_drewN
theorem ip_ord : ∀ i, i ∈ ipErrs → i ∈ ordE := by decide
theorem hopL_hdrL' (h : Hdr) (hk : h.ok) (hw : h.wf) : hopL (hdrL h) = if h.ttl = 0 then ([], some 0) else (hdrL { h with ttl := h.ttl - 1 }, none) := by
  have := hopL_hdrL h hk hw []
  rwa [List.append_nil] at this
theorem hop_end (E : Nat → Addr) (Ab : Option Addr) (cb : Nat) (x0 x1 x3 x4 x5 : Int) (w : World) (hE : Errs ipErrs E w) (hC : Kd.C (Kd.int .u8) w Ab 20 (hdrL ⟨x0, x1, ((0 : Nat) : Int), x3, x4, x5⟩)) (hcb : 20 ≤ cb) (hk : (⟨x0, x1, ((0 : Nat) : Int), x3, x4, x5⟩ : Hdr).ok) (hw : (⟨x0, x1, ((0 : Nat) : Int), x3, x4, x5⟩ : Hdr).wf) :
    Calls Tryd.prog 18 #[.slice Ab 20 cb] w fun e w' => ∃ v, e = .returned (.tuple #[v, .iface 114 (.pointer (some (E 0)))]) ∧ Below w.heap.size w w' := by
  refine (ipHop_any E Ab 20 cb _ w hE hC (hdrL_byt _ hk hw) hcb (by omega)).mono ?_
  rintro e w' ⟨v, rfl, _, hb⟩
  rw [hopL_hdrL' _ hk hw]
  exact ⟨v, rfl, hb⟩
theorem hop_round (E : Nat → Addr) (Ab : Option Addr) (cb : Nat) (x0 x1 x3 x4 x5 : Int) (i : Nat) (w : World) (hE : Errs ipErrs E w) (hC : Kd.C (Kd.int .u8) w Ab 20 (hdrL ⟨x0, x1, ((i + 1 : Nat) : Int), x3, x4, x5⟩)) (hcb : 20 ≤ cb) (hk : (⟨x0, x1, ((i + 1 : Nat) : Int), x3, x4, x5⟩ : Hdr).ok ∧ (⟨x0, x1, ((i + 1 : Nat) : Int), x3, x4, x5⟩ : Hdr).wf) (hk0 : (⟨x0, x1, (i : Int), x3, x4, x5⟩ : Hdr).ok ∧ (⟨x0, x1, (i : Int), x3, x4, x5⟩ : Hdr).wf) :
    Calls Tryd.prog 18 #[.slice Ab 20 cb] w fun e w' => ∃ A' c', e = .returned (.tuple #[.slice A' 20 c', .nilIface]) ∧ 20 ≤ c' ∧ Kd.C (Kd.int .u8) w' A' 20 (hdrL ⟨x0, x1, (i : Int), x3, x4, x5⟩) ∧ Below w.heap.size w w' := by
  refine (ipHop_any E Ab 20 cb _ w hE hC (hdrL_byt _ hk.1 hk.2) hcb (by omega)).mono ?_
  rintro e w' ⟨v, rfl, hR, hb⟩
  rw [hopL_hdrL' _ hk.1 hk.2] at hR ⊢
  rw [if_neg (show ¬ ((i + 1 : Nat) : Int) = 0 by omega)] at hR ⊢
  simp only [show ((i + 1 : Nat) : Int) - 1 = (i : Int) by omega] at hR
  obtain ⟨A', c', rfl, hle, hCC⟩ := Kd.R_reads hR
  rw [hdrL_length] at hle hCC ⊢
  exact ⟨A', c', rfl, hle, hCC, hb⟩
theorem read_round (E : Nat → Addr) (A : Option Addr) (c : Nat) (h : Hdr) (w : World) (hE : Errs ipErrs E w) (hC : Kd.C (Kd.int .u8) w A 20 (hdrL h)) (hcb : 20 ≤ c) (hk : h.ok) (hw : h.wf) :
    Calls Tryd.prog 16 #[.slice A 20 c] w fun e w' => e = .returned (.tuple #[.agg h.cells, .nilIface]) ∧ Below w.heap.size w w' := by
  refine (ipRead_any E A 20 c _ w hE hC (hdrL_byt _ hk hw) hcb (by omega)).mono ?_
  rintro e w' ⟨rfl, hb⟩
  rw [readL_hdrL' _ hk hw]
  exact ⟨rfl, hb⟩
theorem is_range (E : Nat → Addr) (w : World) (hE : Errs ordE E w) :
    Calls Tryd.prog 20 #[.iface 114 (.pointer (some (E 0))), .int .i64 103] w fun e w' => e = .returned (.bool true) ∧ Below w.heap.size w w' := by
  have h := is_any E (some 0) 103 (fun i hi => by cases hi; decide) w hE
  rwa [show decide (codeOf (some 0) = 103) = true by decide] at h
set_option maxHeartbeats 4000000 in
set_option maxRecDepth 100000 in
theorem ipBack_good (E : Nat → Addr) (h : Hdr) (bit : Int) (A : Option Addr) (n c : Nat) (l : List Int) (w : World) (hE : Errs ordE E w) (hw : h.wf) (hcut : (Lit.int .i64 bit).wf = true) (hr : Kd.C (Kd.int .u8) w A n l) (hby : Byt l) (hle : n ≤ c) (hk : h.ok) (hn40 : n ≤ 40) :
    Calls Tryd.prog 4 #[.agg h.cells, .int .i64 bit, .slice A n c] w fun e w' => e = .returned (.bool true) ∧ Below w.heap.size w w' := by
  have hu := Tryd.underlying25
  have hgd := ipBytes_good h
  have hrd := readL_hdrL h hk hw l
  have hhp := hopL_hdrL h hk hw l
  have hbyt := hdrL_byt h hk hw
  have hln := hdrL_length h
  have hok := hk
  obtain ⟨x0, x1, x2, x3, x4, x5⟩ := h
  obtain ⟨⟨k0, k0'⟩, ⟨k1, k1'⟩, ⟨k2, k2'⟩, k3, k3'⟩ := hok
  simp only at k0 k0' k1 k1' k2 k2' k3 k3' hhp
  have hl40 : l.length ≤ 40 := by rw [hr.1]; exact hn40
  have HW := Aside0.mk (And.intro hw (And.intro hk (And.intro hE (And.intro hr (And.intro hby (And.intro hrd (And.intro hhp (And.intro hbyt (And.intro hln hl40)))))))))
  have HG := Aside0.mk hgd
  have HC := Aside0.mk hcut
  simp only [Hdr.cells]
  clear hw hE hk hr hby hrd hhp hbyt hln hgd hcut hl40
  obtain ⟨W, hW⟩ : ∃ W, W = w.alloc (.cells #[.int .i64 x0, .int .i64 x1, .int .i64 x2, .int .i64 x3, .int .u32 x4, .int .u32 x5] 25) := ⟨_, rfl⟩
  have hb0 : Below w.heap.size w W := by rw [hW]; exact below_alloc (Below.refl _ _) _
  have hh : W.heap[w.heap.size]? = some (.cells #[.int .i64 x0, .int .i64 x1, .int .i64 x2, .int .i64 x3, .int .u32 x4, .int .u32 x5] 25 (0, 0)) := by rw [hW]; exact heap_alloc_new w _
  have HS := Aside0.mk (And.intro hb0 hh)
  have HX := Aside0.mk hW
  clear hb0 hh hW
  go_enter Tryd.func4, Tryd.ntmps4
  go_wp2_with fail
  have hW := HX.out
  rw [← hW]
  clear HX hW
  obtain ⟨hb0, hh⟩ := HS.out
  clear HS
  obtain ⟨b, hb⟩ : ∃ b, b = w.heap.size := ⟨_, rfl⟩
  rw [← hb] at hh ⊢
  clear hb
  have hE1 := HW.out.2.2.1.below hb0
  refine (first3_any E W (hE1.sub ip_ord)).mono ?_
  rintro e w2 ⟨rfl, hb2⟩
  have hB2 := reach_to hb0 hb0.size hb2
  replace hh := blk_below hh hb2
  have hE2 := hE1.below hb2
  clear hb0 hE1 hb2
  have p0 := (blk_cell hh 0).trans rfl
  have p1 := (blk_cell hh 1).trans rfl
  have p2 := (blk_cell hh 2).trans rfl
  have p3 := (blk_cell hh 3).trans rfl
  have p4 := (blk_cell hh 4).trans rfl
  have p5 := (blk_cell hh 5).trans rfl
  have HQ := Aside0.mk (And.intro hh (And.intro hB2 hE2))
  clear hh hB2 hE2
  go_wp2_with fail
  clear p0 p1 p2 p3 p4 p5
  refine (HG.out w2 HW.out.2.1 HW.out.1).mono ?_
  rintro e w3 ⟨v, rfl, hR, hb3⟩
  obtain ⟨hh, hB2, hE2⟩ := HQ.out
  obtain ⟨g1, c1, rfl, _⟩ := R_form hR (by rw [HW.out.2.2.2.2.2.2.2.2.1]; omega)
  have hlc := (R_C hR).1
  rw [HW.out.2.2.2.2.2.2.2.2.1] at hlc hR ⊢
  replace hh := blk_below hh hb3
  have hE3 := hE2.below hb3
  have hB3 := reach_to hB2 hB2.size hb3
  have hC3 := (R_C hR).2
  clear hE2 hB2 hb3 HQ
  have HQ := Aside0.mk (And.intro hh (And.intro hB3 (And.intro hE3 hC3)))
  clear hh hB3 hE3 hC3 hR
  go_wp2_with fail
  obtain ⟨hh, hB5, hE5, hC5⟩ := HQ.out
  clear HQ
  have hm5 := Kd.C_below HW.out.2.2.2.1 hB5
  refine (bytes_any (some ⟨g1, 0, none⟩) 20 c1 _ w3 hC5 (by rw [HW.out.2.2.2.2.2.2.2.2.1]; omega)).mono ?_
  rintro e w6 ⟨v6, rfl, hR6, hb6⟩
  have HQ := Aside0.mk (And.intro hh (And.intro hE5 (And.intro hC5 (And.intro hm5 hB5))))
  have HB6 := Aside0.mk (And.intro hR6 (And.intro hb6 (Kd.C_below hm5 hb6)))
  clear hh hB5 hE5 hC5 hm5 hR6 hb6
  go_wp2_with (at_builtin; refine Kd.R_append_row (w0 := w3) (Value.int .u8) 0 w3.heap.size rfl (.tmp 47) (.tmp 48) 26 5 (.int .u8 0) 1 rfl Tryd.underlying26 Tryd.infoB rfl (by decide) v6 (hdrL ⟨x0, x1, x2, x3, x4, x5⟩) l A n c (fun _ => True) (by rfl) (by rfl) (fun _ _ => trivial) HB6.out.1 HB6.out.2.2 HB6.out.2.1 (HB6.out.2.1.size) ?_ ?_)
  · rw [HW.out.2.2.2.2.2.2.2.2.1]; have := HW.out.2.2.2.2.2.2.2.2.2; omega
  intro v7 w7 hR7 hB7 _ _
  obtain ⟨hh, hE5, hC5, hm5, hB5⟩ := HQ.out
  replace hh := blk_below hh hB7
  have hE7 := hE5.below hB7
  have hC7 := Kd.C_below hC5 hB7
  have hB7' := reach_to hB5 hB5.size hB7
  clear HQ HB6 hE5 hC5 hm5 hB5 hB7
  obtain ⟨A7, c7, rfl, hle7, hCC⟩ := Kd.R_reads hR7
  have hll : (hdrL ⟨x0, x1, x2, x3, x4, x5⟩ ++ l).length ≤ 1000000 := by rw [List.length_append, HW.out.2.2.2.2.2.2.2.2.1]; have := HW.out.2.2.2.2.2.2.2.2.2; omega
  generalize hN : (hdrL ⟨x0, x1, x2, x3, x4, x5⟩ ++ l).length = N7 at *
  have HNN7 := Aside0.mk hN
  clear hN
  have HLN := Aside0.mk hll
  have HQ := Aside0.mk (And.intro hh (And.intro hE7 (And.intro hC7 (And.intro hB7' (And.intro hCC hle7)))))
  clear hh hE7 hC7 hB7' hCC hR7 hle7 hll
  go_wp2_with fail
  refine (ipRead_any E A7 N7 c7 (hdrL ⟨x0, x1, x2, x3, x4, x5⟩ ++ l) w7 (HQ.out.2.1.sub ip_ord) HQ.out.2.2.2.2.1 (byt_append HW.out.2.2.2.2.2.2.2.1 HW.out.2.2.2.2.1) HQ.out.2.2.2.2.2 HLN.out).mono ?_
  rintro e w8 ⟨rfl, hb8⟩
  rw [HW.out.2.2.2.2.2.1]
  simp only [errV, Hdr.cells]
  obtain ⟨hh, hE7, hC7, hB7, _, _⟩ := HQ.out
  clear HQ HLN
  have hb8' := below_alloc hb8 (.cells #[.int .i64 x0, .int .i64 x1, .int .i64 x2, .int .i64 x3, .int .u32 x4, .int .u32 x5] 25)
  have hx8 := heap_alloc_new w8 (.cells #[.int .i64 x0, .int .i64 x1, .int .i64 x2, .int .i64 x3, .int .u32 x4, .int .u32 x5] 25)
  replace hh := blk_below hh hb8'
  have hE8 := hE7.below hb8'
  have hC8 := Kd.C_below hC7 hb8'
  have hB8 := reach_to hB7 hB7.size hb8'
  clear hE7 hC7 hB7 hb8 hb8'
  have HQ := Aside0.mk (And.intro hh (And.intro hE8 (And.intro hC8 (And.intro hB8 hx8))))
  clear hh hE8 hC8 hB8 hx8
  go_wp2_with fail
  obtain ⟨hh, hE8, hC8, hB8, hx8⟩ := HQ.out
  clear HQ
  generalize w8.alloc (.cells #[.int .i64 x0, .int .i64 x1, .int .i64 x2, .int .i64 x3, .int .u32 x4, .int .u32 x5] 25) = W8 at *
  obtain ⟨b8, hb8⟩ : ∃ b8, b8 = w8.heap.size := ⟨_, rfl⟩
  rw [← hb8] at hx8 ⊢
  clear hb8
  have p0 := (blk_cell hh 0).trans rfl
  have p1 := (blk_cell hh 1).trans rfl
  have p2 := (blk_cell hh 2).trans rfl
  have p3 := (blk_cell hh 3).trans rfl
  have p4 := (blk_cell hh 4).trans rfl
  have p5 := (blk_cell hh 5).trans rfl
  have q0 := (blk_cell hx8 0).trans rfl
  have q1 := (blk_cell hx8 1).trans rfl
  have q2 := (blk_cell hx8 2).trans rfl
  have q3 := (blk_cell hx8 3).trans rfl
  have q4 := (blk_cell hx8 4).trans rfl
  have q5 := (blk_cell hx8 5).trans rfl
  have HQ := Aside0.mk (And.intro hh (And.intro hE8 (And.intro hC8 hB8)))
  clear hh hE8 hC8 hB8 hx8
  refine wp_region_held_drew (S := (fun w' => w'.cell? ⟨b, 0, none⟩ = some (.int .i64 x0) ∧ w'.cell? ⟨b, 1, none⟩ = some (.int .i64 x1) ∧ w'.cell? ⟨b, 2, none⟩ = some (.int .i64 x2) ∧ w'.cell? ⟨b, 3, none⟩ = some (.int .i64 x3) ∧ w'.cell? ⟨b, 4, none⟩ = some (.int .u32 x4) ∧ w'.cell? ⟨b, 5, none⟩ = some (.int .u32 x5) ∧ w'.cell? ⟨b8, 0, none⟩ = some (.int .i64 x0) ∧ w'.cell? ⟨b8, 1, none⟩ = some (.int .i64 x1) ∧ w'.cell? ⟨b8, 2, none⟩ = some (.int .i64 x2) ∧ w'.cell? ⟨b8, 3, none⟩ = some (.int .i64 x3) ∧ w'.cell? ⟨b8, 4, none⟩ = some (.int .u32 x4) ∧ w'.cell? ⟨b8, 5, none⟩ = some (.int .u32 x5))) (by kernel_rfl) ?_ (fun hHeld => ?_)
  · (refine (fun hK : Below W8.heap.size W8 _ => ⟨pw_cell_below hK p0, pw_cell_below hK p1, pw_cell_below hK p2, pw_cell_below hK p3, pw_cell_below hK p4, pw_cell_below hK p5, pw_cell_below hK q0, pw_cell_below hK q1, pw_cell_below hK q2, pw_cell_below hK q3, pw_cell_below hK q4, pw_cell_below hK q5⟩) ?_; repeat' (first | assumption | exact Below.refl _ _ | (refine below_drew ?_) | (refine pw_below_drewN ?_ _)))
  refine wpAnyH_take (i := 0) (v := ?_) rfl (by kernel_rfl) (by kernel_rfl) (by kernel_rfl) (fun _ _ _ h => h) (Or.inl ⟨by rfl, ?_⟩) (by assumption) ?_
  rotate_left 1
  · intro w hSw; (try dsimp only at hSw); go_simp; try with_reducible rfl
  try simp only [Act.put, List.getElem_toArray, List.getElem_cons_zero, List.getElem_cons_succ, List.setIfInBounds_toArray, List.set_cons_zero, List.set_cons_succ]
  refine wpAnyH_take (i := 1) (v := ?_) rfl (by kernel_rfl) (by kernel_rfl) (by kernel_rfl) (fun _ _ _ h => h) (Or.inl ⟨by rfl, ?_⟩) (by assumption) ?_
  rotate_left 1
  · intro w hSw; (try dsimp only at hSw); go_simp; try with_reducible rfl
  try simp only [Act.put, List.getElem_toArray, List.getElem_cons_zero, List.getElem_cons_succ, List.setIfInBounds_toArray, List.set_cons_zero, List.set_cons_succ]
  refine wpAnyH_take (i := 2) (v := ?_) rfl (by kernel_rfl) (by kernel_rfl) (by kernel_rfl) (fun _ _ _ h => h) (Or.inl ⟨by rfl, ?_⟩) (by assumption) ?_
  rotate_left 1
  · intro w hSw; (try dsimp only at hSw); go_simp; try with_reducible rfl
  try simp only [Act.put, List.getElem_toArray, List.getElem_cons_zero, List.getElem_cons_succ, List.setIfInBounds_toArray, List.set_cons_zero, List.set_cons_succ]
  refine wpAnyH_take (i := 3) (v := ?_) rfl (by kernel_rfl) (by kernel_rfl) (by kernel_rfl) (fun _ _ _ h => h) (Or.inl ⟨by rfl, ?_⟩) (by assumption) ?_
  rotate_left 1
  · intro w hSw; (try dsimp only at hSw); go_simp; try with_reducible rfl
  try simp only [Act.put, List.getElem_toArray, List.getElem_cons_zero, List.getElem_cons_succ, List.setIfInBounds_toArray, List.set_cons_zero, List.set_cons_succ]
  refine wpAnyH_take (i := 4) (v := ?_) rfl (by kernel_rfl) (by kernel_rfl) (by kernel_rfl) (fun _ _ _ h => h) (Or.inl ⟨by rfl, ?_⟩) (by assumption) ?_
  rotate_left 1
  · intro w hSw; (try dsimp only at hSw); go_simp; try with_reducible rfl
  try simp only [Act.put, List.getElem_toArray, List.getElem_cons_zero, List.getElem_cons_succ, List.setIfInBounds_toArray, List.set_cons_zero, List.set_cons_succ]
  refine wpAnyH_ready (rs := [5]) (by kernel_rfl) (by simp) ?_
  refine AllReadyH.cons rfl (fun K hK => ?_) ?_
  · go_simp
    refine (other3_any ⟨x0, x1, x2, x3, x4, x5⟩ _).mono ?_
    rintro e wb ⟨rfl, hbb⟩
    have hk1 : Below W8.heap.size W8 wb := reach_to (below_drew (Below.refl _ _)) (Nat.le_refl _) hbb
    refine hK.out _ _ ?_ (fun hHeld => ?_)
    · (refine (fun hK : Below W8.heap.size W8 _ => ⟨pw_cell_below hK p0, pw_cell_below hK p1, pw_cell_below hK p2, pw_cell_below hK p3, pw_cell_below hK p4, pw_cell_below hK p5, pw_cell_below hK q0, pw_cell_below hK q1, pw_cell_below hK q2, pw_cell_below hK q3, pw_cell_below hK q4, pw_cell_below hK q5⟩) ?_; repeat' (first | assumption | exact Below.refl _ _ | (refine below_drew ?_) | (refine pw_below_drewN ?_ _)))
    clear hK K
    try simp only [Act.put, List.getElem_toArray, List.getElem_cons_zero, List.getElem_cons_succ, List.setIfInBounds_toArray, List.set_cons_zero, List.set_cons_succ]
    refine wpAnyH_ready (rs := [6]) (by kernel_rfl) (by simp) ?_
    refine AllReadyH.cons rfl (fun K hK => ?_) ?_
    · go_simp
      refine (same3_yes ⟨x0, x1, x2, x3, x4, x5⟩ _).mono ?_
      rintro e wc ⟨rfl, hbc⟩
      have hk2 : Below W8.heap.size W8 wc := reach_to hk1 hk1.size hbc
      refine hK.out _ _ ?_ (fun hHeld => ?_)
      · (refine (fun hK : Below W8.heap.size W8 _ => ⟨pw_cell_below hK p0, pw_cell_below hK p1, pw_cell_below hK p2, pw_cell_below hK p3, pw_cell_below hK p4, pw_cell_below hK p5, pw_cell_below hK q0, pw_cell_below hK q1, pw_cell_below hK q2, pw_cell_below hK q3, pw_cell_below hK q4, pw_cell_below hK q5⟩) ?_; repeat' (first | assumption | exact Below.refl _ _ | (refine below_drew ?_) | (refine pw_below_drewN ?_ _)))
      clear hK K
      try simp only [Act.put, List.getElem_toArray, List.getElem_cons_zero, List.getElem_cons_succ, List.setIfInBounds_toArray, List.set_cons_zero, List.set_cons_succ]
      refine wpAnyH_take (i := 7) (v := ?_) rfl (by kernel_rfl) (by kernel_rfl) (by kernel_rfl) (fun _ _ _ h => h) (Or.inl ⟨by rfl, ?_⟩) (by assumption) ?_
      rotate_left 1
      · intro w hSw; (try dsimp only at hSw); go_simp; try with_reducible rfl
      try simp only [Act.put, List.getElem_toArray, List.getElem_cons_zero, List.getElem_cons_succ, List.setIfInBounds_toArray, List.set_cons_zero, List.set_cons_succ]
      refine wpAnyH_take (i := 8) (v := ?_) rfl (by kernel_rfl) (by kernel_rfl) (by kernel_rfl) (fun _ _ _ h => h) (Or.inl ⟨by rfl, ?_⟩) (by assumption) ?_
      rotate_left 1
      · intro w hSw; (try dsimp only at hSw); go_simp; try with_reducible rfl
      try simp only [Act.put, List.getElem_toArray, List.getElem_cons_zero, List.getElem_cons_succ, List.setIfInBounds_toArray, List.set_cons_zero, List.set_cons_succ]
      refine wpAnyH_take (i := 9) (v := ?_) rfl (by kernel_rfl) (by kernel_rfl) (by kernel_rfl) (fun _ _ _ h => h) (Or.inl ⟨by rfl, ?_⟩) (by assumption) ?_
      rotate_left 1
      · intro w hSw; (try dsimp only at hSw); go_simp; try with_reducible rfl
      try simp only [Act.put, List.getElem_toArray, List.getElem_cons_zero, List.getElem_cons_succ, List.setIfInBounds_toArray, List.set_cons_zero, List.set_cons_succ]
      refine wpAnyH_take (i := 10) (v := ?_) rfl (by kernel_rfl) (by kernel_rfl) (by kernel_rfl) (fun _ _ _ h => h) (Or.inl ⟨by rfl, ?_⟩) (by assumption) ?_
      rotate_left 1
      · intro w hSw; (try dsimp only at hSw); go_simp; try with_reducible rfl
      try simp only [Act.put, List.getElem_toArray, List.getElem_cons_zero, List.getElem_cons_succ, List.setIfInBounds_toArray, List.set_cons_zero, List.set_cons_succ]
      refine wpAnyH_take (i := 11) (v := ?_) rfl (by kernel_rfl) (by kernel_rfl) (by kernel_rfl) (fun _ _ _ h => h) (Or.inl ⟨by rfl, ?_⟩) (by assumption) ?_
      rotate_left 1
      · intro w hSw; (try dsimp only at hSw); go_simp; try with_reducible rfl
      try simp only [Act.put, List.getElem_toArray, List.getElem_cons_zero, List.getElem_cons_succ, List.setIfInBounds_toArray, List.set_cons_zero, List.set_cons_succ]
      refine wpAnyH_take (i := 12) (v := ?_) rfl (by kernel_rfl) (by kernel_rfl) (by kernel_rfl) (fun _ _ _ h => h) (Or.inl ⟨by rfl, ?_⟩) (by assumption) ?_
      rotate_left 1
      · intro w hSw; (try dsimp only at hSw); go_simp; try with_reducible rfl
      try simp only [Act.put, List.getElem_toArray, List.getElem_cons_zero, List.getElem_cons_succ, List.setIfInBounds_toArray, List.set_cons_zero, List.set_cons_succ]
      refine wpAnyH_take (i := 13) (v := ?_) rfl (by kernel_rfl) (by kernel_rfl) (by kernel_rfl) (fun _ _ _ h => h) (Or.inl ⟨by rfl, ?_⟩) (by assumption) ?_
      rotate_left 1
      · intro w hSw; (try dsimp only at hSw); go_simp; try with_reducible rfl
      try simp only [Act.put, List.getElem_toArray, List.getElem_cons_zero, List.getElem_cons_succ, List.setIfInBounds_toArray, List.set_cons_zero, List.set_cons_succ]
      refine wpAnyH_done (by kernel_rfl) ?_ _
      have hcl := hHeld
      clear hcl hHeld
      obtain ⟨hh, hE8, hC8, hB8⟩ := HQ.out
      replace hh := blk_below hh hk2
      have hE9 := hE8.below hk2
      have hC9 := Kd.C_below hC8 hk2
      have hB9 := reach_to hB8 hB8.size hk2
      clear hE8 hC8 hB8 hk1 hk2 hbb hbc HQ p0 p1 p2 p3 p4 p5 q0 q1 q2 q3 q4 q5
      have HQ := Aside0.mk (And.intro hh (And.intro hE9 (And.intro hC9 hB9)))
      clear hh hE9 hC9 hB9
      go_wp2_with fail
      obtain ⟨q, hq, HNum⟩ := number_ex bit 160 (by omega) (by omega) HC.out
      refine (HNum.out wc).mono ?_
      rintro e w9 ⟨rfl, rfl⟩
      go_wp2_with fail
      refine (bytes_any (some ⟨g1, 0, none⟩) 20 c1 _ wc HQ.out.2.2.1 (by rw [HW.out.2.2.2.2.2.2.2.2.1]; omega)).mono ?_
      rintro e w10 ⟨v10, rfl, hR10, hb10⟩
      obtain ⟨g2, c2, rfl, hg2⟩ := R_form hR10 (by rw [HW.out.2.2.2.2.2.2.2.2.1]; omega)
      rw [HW.out.2.2.2.2.2.2.2.2.1] at hR10 ⊢
      have hl2 := (R_C hR10).1
      have hq8 : q / 8 < 20 := by omega
      obtain ⟨r0, f0⟩ := R_nat hR10 HW.out.2.2.2.2.2.2.2.2.1 (q / 8) hq8
      obtain ⟨hu0, hu1⟩ := byt_getD HW.out.2.2.2.2.2.2.2.1 (q / 8)
      have HF := Aside0.mk (flip_any ((hdrL ⟨x0, x1, x2, x3, x4, x5⟩).getD (q / 8) 0) (q % 8) hu0 hu1 (by omega))
      have HR10 := Aside0.mk (And.intro hR10 (And.intro hb10 hg2))
      clear hR10 hb10
      generalize hu : (hdrL ⟨x0, x1, x2, x3, x4, x5⟩).getD (q / 8) 0 = u at *
      have HU := Aside0.mk hu
      clear hu
      go_wp2_with fail
      have hshow : bits BinOp.xor IntKind.u8 u (2 ^ (q % 8) % 256) = flip u (q % 8) := rfl
      rw [hshow]
      clear hshow r0 f0
      obtain ⟨f, hf⟩ : ∃ f, f = flip u (q % 8) := ⟨_, rfl⟩
      rw [← hf] at HF ⊢
      clear hf
      obtain ⟨hR10, hb10, _⟩ := HR10.out
      have hR11 := R_putn hR10 HW.out.2.2.2.2.2.2.2.2.1 (q / 8) f
      have hb11 := hb10.setCell hg2 (p := ⟨g2, q / 8, none⟩) (.int .u8 f)
      obtain ⟨hh, hE9, hC9, hB9⟩ := HQ.out
      have hTurn : (readL ((hdrL ⟨x0, x1, x2, x3, x4, x5⟩).set (q / 8) f)).2 ≠ none := readL_turned ⟨x0, x1, x2, x3, x4, x5⟩ HW.out.2.1 HW.out.1 (q / 8) f (q % 8) (by omega) hq8 (by rw [HU.out]; exact HF.out.2.2.1)
      have hbt : Byt ((hdrL ⟨x0, x1, x2, x3, x4, x5⟩).set (q / 8) f) := byt_set HW.out.2.2.2.2.2.2.2.1 _ _ ⟨HF.out.1, HF.out.2.1⟩
      replace hh := blk_below hh hb11
      have hE11 := hE9.below hb11
      have hC11 := Kd.C_below hC9 hb11
      have hB11 := reach_to hB9 hB9.size hb11
      clear hE9 hC9 hB9 hb10 hR10 HR10 HQ HU HF hg2
      generalize w10.setCell ⟨g2, q / 8, none⟩ (.int .u8 f) = w11 at *
      refine (ipRead_any E (some ⟨g2, 0, none⟩) 20 c2 _ w11 (hE11.sub ip_ord) (R_C hR11).2 hbt hl2 (by omega)).mono ?_
      rintro e w12 ⟨rfl, hb12⟩
      obtain ⟨ek, hek⟩ := Option.ne_none_iff_exists'.1 hTurn
      rw [hek]
      simp only [errV]
      generalize (readL ((hdrL ⟨x0, x1, x2, x3, x4, x5⟩).set (q / 8) f)).1 = hx at *
      obtain ⟨z0, z1, z2, z3, z4, z5⟩ := hx
      simp only [Hdr.cells]
      have hb13 := below_alloc hb12 (.cells #[.int .i64 z0, .int .i64 z1, .int .i64 z2, .int .i64 z3, .int .u32 z4, .int .u32 z5] 25)
      replace hh := blk_below hh hb13
      have hE13 := hE11.below hb13
      have hC13 := Kd.C_below hC11 hb13
      have hB13 := reach_to hB11 hB11.size hb13
      clear hR11 hb11 hTurn hbt hE11 hC11 hB11 hb12 hb13 hek hl2
      have p2 := (blk_cell hh 2).trans rfl
      have HQ := Aside0.mk (And.intro hh (And.intro hE13 (And.intro hC13 hB13)))
      clear hh hE13 hC13 hB13
      go_wp2_with fail
      clear p2
      generalize w12.alloc (.cells #[.int .i64 z0, .int .i64 z1, .int .i64 z2, .int .i64 z3, .int .u32 z4, .int .u32 z5] 25) = W13 at *
      obtain ⟨tn, htn⟩ := Int.eq_ofNat_of_zero_le k2
      subst htn
      have hh0 : ∀ j : Nat, j ≤ tn → (⟨x0, x1, (j : Int), x3, x4, x5⟩ : Hdr).ok ∧ (⟨x0, x1, (j : Int), x3, x4, x5⟩ : Hdr).wf := fun j hj => ⟨⟨⟨k0, k0'⟩, ⟨k1, k1'⟩, ⟨by show (0 : Int) ≤ j; omega, by show (j : Int) ≤ 255; omega⟩, k3, k3'⟩, HW.out.1⟩
      have HH := Aside0.mk hh0
      clear hh0
      go_loopg [8, 15] tn (fun k v8 v15 wr => ∃ (Ab : Option Addr) (cb : Nat), k ≤ tn ∧ v15 = .int .i64 (k : Int) ∧ v8 = .slice Ab 20 cb ∧ 20 ≤ cb ∧ Aside0 (Kd.C (Kd.int .u8) wr Ab 20 (hdrL ⟨x0, x1, (k : Int), x3, x4, x5⟩) ∧ Below W13.heap.size W13 wr))
      case atStart => exact ⟨_, _, Nat.le_refl _, rfl, rfl, hlc, ⟨HQ.out.2.2.1, Below.refl _ _⟩⟩
      case round =>
        obtain ⟨Ab, cb, hgk, rfl, rfl, hcb, HR⟩ := hrel
        have hEr := HQ.out.2.1.below HR.out.2
        rcases (show gk = 0 ∨ ∃ i, gk = i + 1 by cases gk with | zero => exact Or.inl rfl | succ i => exact Or.inr ⟨i, rfl⟩) with rfl | ⟨i, rfl⟩
        · have HE := Aside0.mk hEr
          clear hEr
          go_wp2_with fail
          refine (hop_end E Ab cb x0 x1 x3 x4 x5 _ (HE.out.sub ip_ord) HR.out.1 hcb (HH.out 0 hgk).1 (HH.out 0 hgk).2).mono ?_
          rintro e wg ⟨v, rfl, hbg⟩
          have hbk := reach_to HR.out.2 HR.out.2.size hbg
          have HEg := Aside0.mk (HE.out.below hbg)
          have HBK := Aside0.mk (reach_to HQ.out.2.2.2 HQ.out.2.2.2.size hbk)
          clear hbg hbk
          go_wp2_with fail
          refine (is_range E wg HEg.out).mono ?_
          rintro e wh ⟨rfl, hbh⟩
          go_wp2
          go_ret
          exact ⟨rfl, reach_to HBK.out HBK.out.size hbh⟩
        · have HE := Aside0.mk hEr
          clear hEr
          go_wp2_with fail
          refine (hop_round E Ab cb x0 x1 x3 x4 x5 i _ (HE.out.sub ip_ord) HR.out.1 hcb (HH.out (i + 1) hgk) (HH.out i (by omega))).mono ?_
          rintro e wg ⟨A', c', rfl, hc', hC', hbg⟩
          have HEg := Aside0.mk (HE.out.below hbg)
          have HBK := Aside0.mk (And.intro (reach_to HR.out.2 HR.out.2.size hbg) hC')
          clear hbg hC'
          go_wp2_with fail
          refine (read_round E A' c' ⟨x0, x1, (i : Int), x3, x4, x5⟩ wg (HEg.out.sub ip_ord) HBK.out.2 hc' (HH.out i (by omega)).1 (HH.out i (by omega)).2).mono ?_
          rintro e wh ⟨rfl, hbh⟩
          simp only [Hdr.cells]
          have hbk := reach_to HBK.out.1 HBK.out.1.size hbh
          have hhk := blk_below HQ.out.1 hbk
          have hlt := blk_lt hhk
          have p1 := (blk_cell hhk 1).trans rfl
          have p4 := (blk_cell hhk 4).trans rfl
          have p5 := (blk_cell hhk 5).trans rfl
          have HZ := Aside0.mk (And.intro hbk (Kd.C_below HBK.out.2 hbh))
          clear hbk hhk hbh
          go_wp2
          go_roundg i
          case measure => omega
          case rel => exact ⟨A', c', by omega, by go_num, rfl, hc', ⟨Kd.C_alloc HZ.out.2 _, below_alloc HZ.out.1 _⟩⟩
    · exact AllReadyH.nil
  · exact AllReadyH.nil
set_option maxHeartbeats 1000000 in
set_option maxRecDepth 100000 in
theorem ipBack_bad (E : Nat → Addr) (h : Hdr) (bit : Int) (A : Option Addr) (n c : Nat) (w : World) (hE : Errs ipErrs E w) (hw : h.wf) (hk : ¬ h.ok) :
    Calls Tryd.prog 4 #[.agg h.cells, .int .i64 bit, .slice A n c] w fun e w' => e = .returned (.bool true) ∧ Below w.heap.size w w' := by
  have hu := Tryd.underlying25
  obtain ⟨x0, x1, x2, x3, x4, x5⟩ := h
  have HW := Aside0.mk (And.intro hw (And.intro hE hk))
  simp only [Hdr.cells]
  clear hw hE hk
  obtain ⟨W, hW⟩ : ∃ W, W = w.alloc (.cells #[.int .i64 x0, .int .i64 x1, .int .i64 x2, .int .i64 x3, .int .u32 x4, .int .u32 x5] 25) := ⟨_, rfl⟩
  have hb0 : Below w.heap.size w W := by rw [hW]; exact below_alloc (Below.refl _ _) _
  have hh : W.heap[w.heap.size]? = some (.cells #[.int .i64 x0, .int .i64 x1, .int .i64 x2, .int .i64 x3, .int .u32 x4, .int .u32 x5] 25 (0, 0)) := by rw [hW]; exact heap_alloc_new w _
  have HS := Aside0.mk (And.intro hb0 hh)
  have HX := Aside0.mk hW
  clear hb0 hh hW
  go_enter Tryd.func4, Tryd.ntmps4
  go_wp2_with fail
  have hW := HX.out
  rw [← hW]
  clear HX hW
  obtain ⟨hb0, hh⟩ := HS.out
  clear HS
  obtain ⟨b, hb⟩ : ∃ b, b = w.heap.size := ⟨_, rfl⟩
  rw [← hb] at hh ⊢
  clear hb
  have hE1 := HW.out.2.1.below hb0
  refine (first3_any E W hE1).mono ?_
  rintro e w2 ⟨rfl, hb2⟩
  have hB2 := reach_to hb0 hb0.size hb2
  replace hh := blk_below hh hb2
  have hE2 := hE1.below hb2
  clear hb0 hE1 hb2
  have p0 := (blk_cell hh 0).trans rfl
  have p1 := (blk_cell hh 1).trans rfl
  have p2 := (blk_cell hh 2).trans rfl
  have p3 := (blk_cell hh 3).trans rfl
  have p4 := (blk_cell hh 4).trans rfl
  have p5 := (blk_cell hh 5).trans rfl
  have HQ := Aside0.mk (And.intro hB2 hE2)
  clear hh hB2 hE2
  go_wp2_with fail
  clear p0 p1 p2 p3 p4 p5
  refine (ipBytes_bad E ⟨x0, x1, x2, x3, x4, x5⟩ w2 (HQ.out.2.cell 0 (by simp [ipErrs])) HW.out.2.2).mono ?_
  rintro e w3 ⟨rfl, hb3⟩
  have hB3 := reach_to HQ.out.1 HQ.out.1.size hb3
  simp only [errV]
  go_wp2
  all_goals go_ret
  all_goals exact ⟨rfl, hB3⟩
set_option maxHeartbeats 1000000 in
set_option maxRecDepth 100000 in
theorem ipBack_long (E : Nat → Addr) (h : Hdr) (bit : Int) (A : Option Addr) (n c : Nat) (w : World) (hE : Errs ipErrs E w) (hw : h.wf) (hk : h.ok) (hn : ¬ n ≤ 40) (hn2 : n ≤ 9223372036854775807) :
    Calls Tryd.prog 4 #[.agg h.cells, .int .i64 bit, .slice A n c] w fun e w' => e = .returned (.bool true) ∧ Below w.heap.size w w' := by
  have hu := Tryd.underlying25
  obtain ⟨x0, x1, x2, x3, x4, x5⟩ := h
  have HW := Aside0.mk (And.intro hw (And.intro hE hk))
  simp only [Hdr.cells]
  clear hw hE hk
  obtain ⟨W, hW⟩ : ∃ W, W = w.alloc (.cells #[.int .i64 x0, .int .i64 x1, .int .i64 x2, .int .i64 x3, .int .u32 x4, .int .u32 x5] 25) := ⟨_, rfl⟩
  have hb0 : Below w.heap.size w W := by rw [hW]; exact below_alloc (Below.refl _ _) _
  have hh : W.heap[w.heap.size]? = some (.cells #[.int .i64 x0, .int .i64 x1, .int .i64 x2, .int .i64 x3, .int .u32 x4, .int .u32 x5] 25 (0, 0)) := by rw [hW]; exact heap_alloc_new w _
  have HS := Aside0.mk (And.intro hb0 hh)
  have HX := Aside0.mk hW
  clear hb0 hh hW
  go_enter Tryd.func4, Tryd.ntmps4
  go_wp2_with fail
  have hW := HX.out
  rw [← hW]
  clear HX hW
  obtain ⟨hb0, hh⟩ := HS.out
  clear HS
  obtain ⟨b, hb⟩ : ∃ b, b = w.heap.size := ⟨_, rfl⟩
  rw [← hb] at hh ⊢
  clear hb
  have hE1 := HW.out.2.1.below hb0
  refine (first3_any E W hE1).mono ?_
  rintro e w2 ⟨rfl, hb2⟩
  have hB2 := reach_to hb0 hb0.size hb2
  replace hh := blk_below hh hb2
  have hE2 := hE1.below hb2
  clear hb0 hE1 hb2
  have p0 := (blk_cell hh 0).trans rfl
  have p1 := (blk_cell hh 1).trans rfl
  have p2 := (blk_cell hh 2).trans rfl
  have p3 := (blk_cell hh 3).trans rfl
  have p4 := (blk_cell hh 4).trans rfl
  have p5 := (blk_cell hh 5).trans rfl
  have HQ := Aside0.mk (And.intro hB2 hE2)
  clear hh hB2 hE2
  go_wp2_with fail
  clear p0 p1 p2 p3 p4 p5
  have hd : decide (40 < (n : Int)) = true := decide_eq_true (by omega)
  refine (ipBytes_good ⟨x0, x1, x2, x3, x4, x5⟩ w2 HW.out.2.2 HW.out.1).mono ?_
  rintro e w3 ⟨v, rfl, hR, hb3⟩
  have hB3 := reach_to HQ.out.1 HQ.out.1.size hb3
  go_wp2
  all_goals go_ret
  all_goals exact ⟨rfl, hB3⟩
theorem ipBack_all (E : Nat → Addr) (h : Hdr) (bit : Int) (A : Option Addr) (n c : Nat) (l : List Int) (w : World) (hE : Errs ordE E w) (hw : h.wf) (hbit : (Lit.int .i64 bit).wf = true) (hr : Kd.C (Kd.int .u8) w A n l) (hby : Byt l) (hle : n ≤ c) :
    Calls Tryd.prog 4 #[.agg h.cells, .int .i64 bit, .slice A n c] w fun e w' => e = .returned (.bool true) ∧ Below w.heap.size w w' := by
  by_cases hk : h.ok
  · by_cases hn : n ≤ 40
    · exact ipBack_good E h bit A n c l w hE hw hbit hr hby hle hk hn
    · exact ipBack_long E h bit A n c w (hE.sub ip_ord) hw hk hn (Kd.C_max hr)
  · exact ipBack_bad E h bit A n c w (hE.sub ip_ord) hw hk
end Go.Proofs.YtbgbplbkombfjaaDoor
