/- The document's queue: Flip. -/
import Derived.Test.YtjcihhkeehjgdaaQRagain
namespace Go.Proofs.Ytjcihhkeehjgdaa
open Go.RowKit Go.Proofs.YtjcihhkeehjgdaaW.PrintWords SumPlain
set_option linter.unusedVariables false
set_option linter.unusedSimpArgs false
attribute [local go_sem] setCell_drewN alloc_drewN
set_option maxHeartbeats 1000000 in
theorem rflip_low (i bit : Int) (w : World) (base : Nat) (ok : Nat → Prop) (g : Nat) (L : List (Int × List Int)) (d : Int) (hQ : RQ base ok w g L d) (hi : i < 0) :
    Calls Try.prog 34 #[.pointer (some ⟨g, 0, none⟩), .int .i64 i, .int .i64 bit] w fun e w' => e = .returned (.bool false) ∧ w = w' := by
  have hu := Try.underlying58
  obtain ⟨v, hq, hR⟩ := hQ
  obtain ⟨A0, c0, rfl, hle0, hC0⟩ := Kd.R_reads hR
  have hmxN : L.length ≤ 9223372036854775807 := Kd.C_max hC0
  generalize L.length = N at *
  have p0 := (blk_cell hq 0).trans rfl
  clear hq hR hC0
  go_enter Try.func34, Try.ntmps34
  go_wp2
  go_ret
  exact ⟨rfl, rfl⟩
set_option maxHeartbeats 1000000 in
theorem rflip_high (i bit : Int) (w : World) (base : Nat) (ok : Nat → Prop) (g : Nat) (L : List (Int × List Int)) (d : Int) (hQ : RQ base ok w g L d) (h0 : 0 ≤ i) (hi : (L.length : Int) ≤ i) :
    Calls Try.prog 34 #[.pointer (some ⟨g, 0, none⟩), .int .i64 i, .int .i64 bit] w fun e w' => e = .returned (.bool false) ∧ w = w' := by
  have hu := Try.underlying58
  obtain ⟨v, hq, hR⟩ := hQ
  obtain ⟨A0, c0, rfl, hle0, hC0⟩ := Kd.R_reads hR
  have hmxN : L.length ≤ 9223372036854775807 := Kd.C_max hC0
  generalize L.length = N at *
  have p0 := (blk_cell hq 0).trans rfl
  clear hq hR hC0
  have d0 : decide (i < 0) = false := decide_eq_false (by omega)
  go_enter Try.func34, Try.ntmps34
  go_wp2
  go_ret
  exact ⟨rfl, rfl⟩
set_option maxHeartbeats 1000000 in
theorem rflip_neg (i bit : Int) (w : World) (base : Nat) (ok : Nat → Prop) (g : Nat) (L : List (Int × List Int)) (d : Int) (hQ : RQ base ok w g L d) (h0 : 0 ≤ i) (hi : i < (L.length : Int)) (hb : bit < 0) :
    Calls Try.prog 34 #[.pointer (some ⟨g, 0, none⟩), .int .i64 i, .int .i64 bit] w fun e w' => e = .returned (.bool false) ∧ w = w' := by
  have hu := Try.underlying58
  obtain ⟨v, hq, hR⟩ := hQ
  obtain ⟨A0, c0, rfl, hle0, hC0⟩ := Kd.R_reads hR
  have hmxN : L.length ≤ 9223372036854775807 := Kd.C_max hC0
  generalize L.length = N at *
  have p0 := (blk_cell hq 0).trans rfl
  clear hq hR hC0
  have d0 : decide (i < 0) = false := decide_eq_false (by omega)
  go_enter Try.func34, Try.ntmps34
  go_wp2
  go_ret
  exact ⟨rfl, rfl⟩
set_option maxHeartbeats 2000000 in
set_option maxRecDepth 100000 in
theorem rflip_past (i : Nat) (bit : Int) (p : Int) (l : List Int) (w : World) (base : Nat) (ok : Nat → Prop) (g : Nat) (L : List (Int × List Int)) (d : Int) (hQ : RQ base ok w g L d) (hi : i < L.length) (hL : L.length ≤ 1000000) (he : L.getD i (0, []) = (p, l)) (hb0 : 0 ≤ bit) (hb : 8 * (l.length : Int) ≤ bit) (hl : l.length ≤ 1000000) :
    Calls Try.prog 34 #[.pointer (some ⟨g, 0, none⟩), .int .i64 (i : Int), .int .i64 bit] w fun e w' => e = .returned (.bool false) ∧ w = w' := by
  have hu := Try.underlying58
  have hu2 := Try.underlying62
  obtain ⟨v, hq, hR⟩ := hQ
  obtain ⟨h, c0, rfl, hh0, hhw, _⟩ := Kd.R_form hR (by omega)
  have hle0 := (Kd.R_reads' hR).2.1
  have hel := Kd.R_elem hR (0, []) (i : Int) (by omega) (by omega)
  rw [show (i : Int).toNat = i by omega, he] at hel
  obtain ⟨cs, hcl, ⟨x0, x1, rfl, hx0, u, rfl, hRu⟩, hcc, hfz⟩ := hel
  have hx0' : x0 = [.int .i64 p] := hx0
  subst hx0'
  have e0 := hcc 0 (.int .i64 p) rfl
  have e1 := hcc 1 u rfl
  have f1 := hfz 1
  have esz : (Kd.pair (Kd.int .i64) (Kd.slice 5 (Kd.int .u8))).sz = 2 := rfl
  rw [esz] at e0 e1 f1
  rw [Nat.add_zero] at e0
  obtain ⟨Au, cu, rfl, hlu, hCu⟩ := Kd.R_reads hRu
  have p0 := (blk_cell hq 0).trans rfl
  generalize l.length = nu at *
  generalize L.length = N at *
  have d0 : decide ((i : Int) < 0) = false := decide_eq_false (by omega)
  have d1 : decide (bit < 0) = false := decide_eq_false (by omega)
  clear hq hR hcc hfz hRu hx0 hcl hh0 hhw he hCu f1
  go_enter Try.func34, Try.ntmps34
  go_wp2
  go_ret
  exact ⟨rfl, rfl⟩
theorem half_bits : ∀ r : Fin 8, (128 : Int) / 2 ^ r.val = 2 ^ (7 - r.val) % 256 := by decide +kernel
set_option maxHeartbeats 4000000 in
set_option maxRecDepth 100000 in
theorem rflip_in (i bit : Nat) (p : Int) (l : List Int) (w w0 : World) (base : Nat) (ok : Nat → Prop) (g : Nat) (L : List (Int × List Int)) (d : Int) (hQ : RQ base ok w g L d) (hB : Below base w0 w) (hbase : base ≤ w.heap.size) (hi : i < L.length) (hL : L.length ≤ 1000000) (he : L.getD i (0, []) = (p, l)) (hb : bit / 8 < l.length) (hl : l.length ≤ 1000000) (hfresh : ∀ k, w.heap.size ≤ k → ok k) :
    Calls Try.prog 34 #[.pointer (some ⟨g, 0, none⟩), .int .i64 (i : Int), .int .i64 (bit : Int)] w fun e w' => e = .returned (.bool true) ∧ RQ base ok w' g (L.set i (p, l.set (bit / 8) (flip (l.getD (bit / 8) 0) (7 - bit % 8)))) d ∧ Below base w0 w' ∧ w.heap.size ≤ w'.heap.size ∧ FrQ ok g w w' := by
  have hu := Try.underlying58
  have hu2 := Try.underlying62
  obtain ⟨v, hq, hR⟩ := hQ
  obtain ⟨h, c0, rfl, hh0, hhw, _⟩ := Kd.R_form hR (by omega)
  have hle0 := (Kd.R_reads' hR).2.1
  have hel := Kd.R_elem hR (0, []) (i : Int) (by omega) (by omega)
  rw [show (i : Int).toNat = i by omega, he] at hel
  obtain ⟨cs, hcl, ⟨x0, x1, rfl, hx0, u, rfl, hRu⟩, hcc, hfz⟩ := hel
  have hx0' : x0 = [.int .i64 p] := hx0
  subst hx0'
  have e0 := hcc 0 (.int .i64 p) rfl
  have e1 := hcc 1 u rfl
  have f1 := hfz 1
  have esz : (Kd.pair (Kd.int .i64) (Kd.slice 5 (Kd.int .u8))).sz = 2 := rfl
  rw [esz] at e0 e1 f1
  rw [Nat.add_zero] at e0
  obtain ⟨Au, cu, rfl, hlu, hCu⟩ := Kd.R_reads hRu
  have p0 := (blk_cell hq 0).trans rfl
  have d0 : decide ((i : Int) < 0) = false := decide_eq_false (by omega)
  have d1 : decide ((bit : Int) < 0) = false := decide_eq_false (by omega)
  obtain ⟨N, hN⟩ : ∃ N, N = L.length := ⟨_, rfl⟩
  obtain ⟨nu, hnu⟩ : ∃ nu, nu = l.length := ⟨_, rfl⟩
  have HQ := Aside0.mk (And.intro hq (And.intro hR (And.intro hB (And.intro hbase (And.intro hCu (And.intro hfresh (And.intro hN (And.intro hnu (And.intro hl hi)))))))))
  have hEE := Aside0.mk he
  rw [← hN] at p0 hi hle0 hL
  rw [← hnu] at e1 hlu hb hl
  have hhw' := hhw
  clear hq hR hcc hfz hRu hx0 hcl hh0 he hB hbase hfresh hCu hN hnu
  go_enter Try.func34, Try.ntmps34
  go_wp2_with fail
  refine (bytes_any Au nu cu l w (by rw [HQ.out.2.2.2.2.2.2.2.1]; exact HQ.out.2.2.2.2.1) (by rw [← HQ.out.2.2.2.2.2.2.2.1]; exact hl)).mono ?_
  rintro e w2 ⟨v2, rfl, hR2, hb2⟩
  obtain ⟨bn, cn, rfl, hbn⟩ := R_form hR2 (by rw [← HQ.out.2.2.2.2.2.2.2.1]; omega)
  rw [← HQ.out.2.2.2.2.2.2.2.1] at hR2 ⊢
  obtain ⟨r0, f0⟩ := R_nat hR2 HQ.out.2.2.2.2.2.2.2.1.symm (bit / 8) hb
  have hlt2 : bn < w2.heap.size := Kd.R_lt hR2 bn rfl
  have p0 := pw_cell_below hb2 p0
  have e1 := pw_cell_below hb2 e1
  have hq2 := blk_below HQ.out.1 hb2
  have hRr := Kd.R_below HQ.out.2.1 hb2
  obtain ⟨cellsh, hch⟩ := Kd.R_typed hRr h rfl
  have fh := blk_frozen hch
  have hgw := blk_lt HQ.out.1
  have hgn : g ≠ bn := by omega
  have hhn : h ≠ bn := by omega
  generalize hbv : l.getD (bit / 8) 0 = bv at *
  have HB2 := Aside0.mk (And.intro hR2 (And.intro hb2 (And.intro hq2 hbn)))
  have HBV := Aside0.mk hbv
  clear hR2 hb2 hq2 hRr hch hbv hgw hbn
  go_wp2
  go_ret
  have hX : bits BinOp.xor IntKind.u8 bv (128 / 2 ^ (bit % 8)) = flip bv (7 - bit % 8) := by
    unfold flip
    rw [← half_bits ⟨bit % 8, by omega⟩]
  rw [hX, HBV.out]
  obtain ⟨hq, hR, hB, hbase, hCu, hfresh, hN, hnu, hl0, hi0⟩ := HQ.out
  obtain ⟨hR2, hb2, hq2, hbn⟩ := HB2.out
  obtain ⟨nb, hnb⟩ : ∃ nb, nb = flip bv (7 - bit % 8) := ⟨_, rfl⟩
  rw [← hnb]
  have hgh : g ≠ h := fun e => (Kd.R_ne hR hq (by decide)) (by rw [e]; rfl)
  have hRb := Kd.R_mono (ok' := ok) (Kd.R_far (Kd.R_mono (Kd.R_below (Kd.R_bound hR) hb2) (ok' := fun k => ok k ∧ k < w.heap.size) (fun k hk => ⟨hk.1, hk.2.2.1⟩)) (p := ⟨bn, bit / 8, none⟩) (fun k hk => show k ≠ bn by have := hk.2; omega) (.int .u8 nb)) (fun k hk => hk.1)
  have hRu := R_putn hR2 hnu.symm (bit / 8) nb
  rw [← hN] at hRb
  obtain ⟨c5, hcl5, hM5, hcc5, _⟩ := Kd.R_elem hRb (0, []) (i : Int) (by omega) (by omega)
  obtain ⟨y0, y1, rfl, hy0, uy, rfl, hRy⟩ := hM5
  have hy0' : y0 = [.int .i64 (L.getD i (0, [])).1] := hy0
  have hseg := Kd.R_seg hRb (i : Int) (by omega) (by omega) hcl5 hcc5 (seg := [.slice (some ⟨bn, 0, none⟩) nu cn]) (j := 1) (by show 1 + 1 ≤ 2; omega) (x' := (p, l.set (bit / 8) nb)) (okp := fun k => ok k ∧ w.heap.size ≤ k)
    ⟨y0, [.slice (some ⟨bn, 0, none⟩) nu cn], by rw [hy0']; rfl, by rw [hy0', hEE.out]; rfl, _, rfl, Kd.R_mono (Kd.R_lower (Kd.R_bound hRu) hbase) (fun k hk => ⟨hfresh k hk.2.1, hk.2.1⟩)⟩ (fun k hk => ⟨hk.1, by have := hk.2; omega⟩)
  have hS := hseg.1
  rw [show (i : Int).toNat = i by omega] at hS
  have hq3 := blk_far (blk_far hq2 (p := ⟨bn, bit / 8, none⟩) hgn (.int .u8 nb)) (p := ⟨h, i * 2 + 1, none⟩) hgh (.slice (some ⟨bn, 0, none⟩) nu cn)
  have hbb : base ≤ h := Kd.R_base hR h rfl
  have hB2 : Below base w0 w2 := hB.trans ⟨hb2.os, hb2.tape, hb2.output, hb2.size, fun j hj => hb2.block j (Nat.lt_of_lt_of_le hj hbase)⟩
  rw [← hN] at hq3
  refine ⟨rfl, ⟨_, hq3, hS⟩, Below.setCell (Below.setCell hB2 (Nat.le_trans hbase hbn) _) hbb _, by simpa [World.setCell] using hb2.size, fun k hk hkg hnk => ?_⟩
  have hkh : k ≠ h := fun e => hnk (by rw [e]; exact hR.1 h rfl)
  exact ((Below.heap_setCell _ ⟨h, i * 2 + 1, none⟩ _ k hkh).trans (Below.heap_setCell w2 ⟨bn, bit / 8, none⟩ _ k (show k ≠ bn by omega))).trans (hb2.block k hk)
end Go.Proofs.Ytjcihhkeehjgdaa
