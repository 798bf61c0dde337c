/- Both queues, step by step: Flip. -/
import Derived.Test.YtjcihhkeehjgdaaQOps2
namespace Go.Proofs.Ytjcihhkeehjgdaa
open Go.RowKit Go.Proofs.YtjcihhkeehjgdaaW.PrintWords SumPlain
set_option linter.unusedVariables false
set_option linter.unusedSimpArgs false
attribute [local go_sem] setCell_drewN alloc_drewN
set_option maxHeartbeats 2000000 in
set_option maxRecDepth 100000 in
theorem flip_past2 (i bit : Nat) (p : Int) (l : List Int) (w : World) (base : Nat) (ok : Nat → Prop) (g : Nat) (L : List (Int × List Int)) (d : Int) (hQ : QS base ok w g L d) (hi : i < L.length) (hL : L.length ≤ 1000000) (he : L.getD i (0, []) = (p, l)) (hb : l.length ≤ bit / 8) (hb2 : bit ≤ 9223372036854775807) :
    Calls Try.prog 27 #[.pointer (some ⟨g, 0, none⟩), .int .i64 (i : Int), .int .i64 (bit : Int)] w fun e w' => e = .returned (.bool false) ∧ w = w' := by
  have hu := Try.underlying38
  have hu2 := Try.underlying42
  obtain ⟨v, hq, hR⟩ := hQ
  obtain ⟨h, c0, rfl, hh0, hhw, _⟩ := Kd.S_form hR (by omega)
  have hle0 := (Kd.S_reads' hR).2.1
  have hel := Kd.S_borrow hR (0, []) (i : Int) (by omega) (by omega)
  rw [show (i : Int).toNat = i by omega, he] at hel
  obtain ⟨oki, cs, hcl, ⟨x0, x1, rfl, hx0, u, rfl, hRu⟩, hcc, hoki, hback⟩ := hel
  have hx0' : x0 = [.int .i64 p] := hx0
  subst hx0'
  have e0 := hcc 0 (.int .i64 p) rfl
  have e1 := hcc 1 u rfl
  have esz : (Kd.pair (Kd.int .i64) (Kd.slice 5 (Kd.int .u8))).sz = 2 := rfl
  rw [esz] at e0 e1
  rw [Nat.add_zero] at e0
  have hadd : ∀ j : Nat, (⟨h, 0, none⟩ : Addr).add j = ⟨h, j, none⟩ := fun j => by cases j <;> simp [Addr.add]
  rw [hadd] at e0 e1
  clear hadd
  obtain ⟨Au, cu, rfl⟩ := Kd.R_slice hRu
  generalize l.length = nu at *
  generalize L.length = N at *
  have p0 := (blk_cell hq 0).trans rfl
  clear hq hR hcc hback hRu hx0 hcl hoki hh0 hhw he
  go_enter Try.func27, Try.ntmps27
  go_wp2_with fail
  refine (is_any (i : Int) _ g (some ⟨h, 0, none⟩) N c0 (by omega) p0).mono ?_
  rintro e w1 ⟨rfl, rfl⟩
  rw [decide_eq_true (show (0 : Int) ≤ (i : Int) ∧ (i : Int) < (N : Int) by omega)]
  go_wp2
  go_ret
  exact ⟨rfl, rfl⟩
theorem not_bit {i bit : Int} {L : List (Int × List Int)} (h : ¬ inQ i L) : flipL i bit L = L := by
  unfold flipL; rw [if_neg (fun hb => h hb.1)]
theorem xflip (i bit : Int) (D : Nat → Prop) (wr w w0 : World) (B gx gy : Nat) (Lx Ly : List (Int × List Int)) (dx dy : Int) (hP : PQ D wr B w gx gy Lx Ly dx dy) (hlen : Lx.length ≤ 1000000) (hl : ∀ x ∈ Lx, x.2.length ≤ 100000) (hB : Below B w0 w) (hbit : bit ≤ 9223372036854775807) :
    Calls Try.prog 27 #[.pointer (some ⟨gx, 0, none⟩), .int .i64 i, .int .i64 bit] w fun e w' => e = .returned (.bool (decide (bitIn i bit Lx))) ∧ PQ D wr B w' gx gy (flipL i bit Lx) Ly dx dy ∧ Below B w0 w' := by
  obtain ⟨okx, oky, h, hD⟩ := hP
  by_cases hi : inQ i Lx
  · obtain ⟨k, rfl⟩ := Int.eq_ofNat_of_zero_le hi.1
    have hk : k < Lx.length := by have := hi.2; omega
    have hit : itemAt (k : Int) Lx = Lx.getD k (0, []) := by unfold itemAt; rw [if_pos hi]; rfl
    have hml : (itemAt (k : Int) Lx).2.length ≤ 100000 := by
      rw [hit, List.getD_eq_getElem?_getD, List.getElem?_eq_getElem hk]
      exact hl _ (List.getElem_mem hk)
    by_cases hb : bitIn (k : Int) bit Lx
    · have hb1 := hb.2.2
      obtain ⟨b, rfl⟩ := Int.eq_ofNat_of_zero_le hb.2.1
      refine (flip_in_fr k b (itemAt (k : Int) Lx).1 (itemAt (k : Int) Lx).2 w w0 B (fun j => okx j ∨ w.heap.size ≤ j) gx Lx dx (h.x.mono (fun _ h => Or.inl h)) hB h.bw hk hlen hit.symm (by omega) (by omega) (by omega)).mono ?_
      rintro e w' ⟨rfl, hQ, hB', hs, hf⟩
      refine ⟨by rw [decide_eq_true hb], ?_, hB'⟩
      have := h.xstep hD hQ hs hf
      unfold flipL
      rw [if_pos hb]
      exact this
    · have hfl : flipL (k : Int) bit Lx = Lx := by unfold flipL; rw [if_neg hb]
      rw [hfl, decide_eq_false hb]
      by_cases h0 : bit < 0
      · refine (flip_neg k bit w B okx gx Lx dx h.x hk h0).mono ?_
        rintro e w' ⟨rfl, rfl⟩
        exact ⟨rfl, ⟨okx, oky, h, hD⟩, hB⟩
      · obtain ⟨b, rfl⟩ := Int.eq_ofNat_of_zero_le (show 0 ≤ bit by omega)
        have hpast : (itemAt (k : Int) Lx).2.length ≤ b / 8 := by
          have : ¬ ((b : Int) / 8 < ((itemAt (k : Int) Lx).2.length : Int)) := fun hc => hb ⟨hi, by omega, hc⟩
          omega
        refine (flip_past2 k b (itemAt (k : Int) Lx).1 (itemAt (k : Int) Lx).2 w B okx gx Lx dx h.x hk hlen hit.symm hpast (by omega)).mono ?_
        rintro e w' ⟨rfl, rfl⟩
        exact ⟨rfl, ⟨okx, oky, h, hD⟩, hB⟩
  · rw [not_bit hi, decide_eq_false (fun hb : bitIn i bit Lx => hi hb.1)]
    refine (flip_far i bit w B okx gx Lx dx h.x (by unfold inQ at hi; omega)).mono ?_
    rintro e w' ⟨rfl, rfl⟩
    exact ⟨rfl, ⟨okx, oky, h, hD⟩, hB⟩
theorem yflip (i bit : Int) (D : Nat → Prop) (wr w w0 : World) (B gx gy : Nat) (Lx Ly : List (Int × List Int)) (dx dy : Int) (hP : PQ D wr B w gx gy Lx Ly dx dy) (hlen : Ly.length ≤ 1000000) (hl : ∀ x ∈ Ly, x.2.length ≤ 100000) (hB : Below B w0 w) :
    Calls Try.prog 34 #[.pointer (some ⟨gy, 0, none⟩), .int .i64 i, .int .i64 bit] w fun e w' => e = .returned (.bool (decide (bitIn i bit Ly))) ∧ PQ D wr B w' gx gy Lx (flipL i bit Ly) dx dy ∧ Below B w0 w' := by
  obtain ⟨okx, oky, h, hD⟩ := hP
  by_cases hi : inQ i Ly
  · obtain ⟨k, rfl⟩ := Int.eq_ofNat_of_zero_le hi.1
    have hk : k < Ly.length := by have := hi.2; omega
    have hit : itemAt (k : Int) Ly = Ly.getD k (0, []) := by unfold itemAt; rw [if_pos hi]; rfl
    have hml : (itemAt (k : Int) Ly).2.length ≤ 100000 := by
      rw [hit, List.getD_eq_getElem?_getD, List.getElem?_eq_getElem hk]
      exact hl _ (List.getElem_mem hk)
    by_cases hb : bitIn (k : Int) bit Ly
    · have hb1 := hb.2.2
      obtain ⟨b, rfl⟩ := Int.eq_ofNat_of_zero_le hb.2.1
      refine (rflip_in k b (itemAt (k : Int) Ly).1 (itemAt (k : Int) Ly).2 w w0 B (fun j => oky j ∨ w.heap.size ≤ j) gy Ly dy (h.y.mono (fun _ h => Or.inl h)) hB h.bw hk hlen hit.symm (by omega) (by omega) (fun j hj => Or.inr hj)).mono ?_
      rintro e w' ⟨rfl, hQ, hB', hs, hf⟩
      refine ⟨by rw [decide_eq_true hb], ?_, hB'⟩
      have := h.ystep hD hQ hs hf
      unfold flipL
      rw [if_pos hb]
      exact this
    · have hfl : flipL (k : Int) bit Ly = Ly := by unfold flipL; rw [if_neg hb]
      rw [hfl, decide_eq_false hb]
      by_cases h0 : bit < 0
      · refine (rflip_neg (k : Int) bit w B oky gy Ly dy h.y hi.1 hi.2 h0).mono ?_
        rintro e w' ⟨rfl, rfl⟩
        exact ⟨rfl, ⟨okx, oky, h, hD⟩, hB⟩
      · have hpast : 8 * ((itemAt (k : Int) Ly).2.length : Int) ≤ bit := by
          have : ¬ (bit / 8 < ((itemAt (k : Int) Ly).2.length : Int)) := fun hc => hb ⟨hi, by omega, hc⟩
          omega
        refine (rflip_past k bit (itemAt (k : Int) Ly).1 (itemAt (k : Int) Ly).2 w B oky gy Ly dy h.y hk hlen hit.symm (by omega) hpast (by omega)).mono ?_
        rintro e w' ⟨rfl, rfl⟩
        exact ⟨rfl, ⟨okx, oky, h, hD⟩, hB⟩
  · rw [not_bit hi, decide_eq_false (fun hb : bitIn i bit Ly => hi hb.1)]
    by_cases h0 : i < 0
    · refine (rflip_low i bit w B oky gy Ly dy h.y h0).mono ?_
      rintro e w' ⟨rfl, rfl⟩
      exact ⟨rfl, ⟨okx, oky, h, hD⟩, hB⟩
    · refine (rflip_high i bit w B oky gy Ly dy h.y (by omega) (by unfold inQ at hi; omega)).mono ?_
      rintro e w' ⟨rfl, rfl⟩
      exact ⟨rfl, ⟨okx, oky, h, hD⟩, hB⟩
end Go.Proofs.Ytjcihhkeehjgdaa
