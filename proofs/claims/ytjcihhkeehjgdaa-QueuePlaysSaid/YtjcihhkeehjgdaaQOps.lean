/- Both queues, step by step. -/
import Derived.Test.YtjcihhkeehjgdaaQPair
namespace Go.Proofs.Ytjcihhkeehjgdaa
open Go.RowKit Go.Proofs.YtjcihhkeehjgdaaW.PrintWords SumPlain
set_option linter.unusedVariables false
set_option linter.unusedSimpArgs false
def putL (p : Int) (l : List Int) (L : List (Int × List Int)) : List (Int × List Int) := if L.length < 4096 then L ++ [(p, l)] else L
def putD (L : List (Int × List Int)) (d : Int) : Int := if L.length < 4096 then d else d + 1
def inQ (i : Int) (L : List (Int × List Int)) : Prop := 0 ≤ i ∧ i < (L.length : Int)
instance (i : Int) (L : List (Int × List Int)) : Decidable (inQ i L) := by unfold inQ; infer_instance
def itemAt (i : Int) (L : List (Int × List Int)) : Int × List Int := if inQ i L then L.getD i.toNat (0, []) else (0, [])
def takeL (i : Int) (L : List (Int × List Int)) : List (Int × List Int) := if inQ i L then L.eraseIdx i.toNat else L
def copyL (i : Int) (L : List (Int × List Int)) : List (Int × List Int) := if inQ i L then putL (itemAt i L).1 (itemAt i L).2 L else L
def copyD (i : Int) (L : List (Int × List Int)) (d : Int) : Int := if inQ i L then putD L d else d
def bitIn (i bit : Int) (L : List (Int × List Int)) : Prop := inQ i L ∧ 0 ≤ bit ∧ bit / 8 < ((itemAt i L).2.length : Int)
instance (i bit : Int) (L : List (Int × List Int)) : Decidable (bitIn i bit L) := by unfold bitIn; infer_instance
def flipL (i bit : Int) (L : List (Int × List Int)) : List (Int × List Int) := if bitIn i bit L then L.set i.toNat ((itemAt i L).1, (itemAt i L).2.set (bit.toNat / 8) (flip ((itemAt i L).2.getD (bit.toNat / 8) 0) (7 - bit.toNat % 8))) else L
theorem xput (p : Int) (A : Option Addr) (n c : Nat) (l : List Int) (D : Nat → Prop) (wr w w0 : World) (B gx gy : Nat) (Lx Ly : List (Int × List Int)) (dx dy : Int) (hP : PQ D wr B w gx gy Lx Ly dx dy) (hC : Kd.C (Kd.int .u8) w A n l) (hl : l.length ≤ 1000000) (hB : Below B w0 w) (hd0 : 0 ≤ dx) (hd : dx ≤ 1000000) :
    Calls Try.prog 21 #[.pointer (some ⟨gx, 0, none⟩), .int .i64 p, .slice A n c] w fun e w' => e = .returned (.bool (decide (Lx.length < 4096))) ∧ PQ D wr B w' gx gy (putL p l Lx) Ly (putD Lx dx) dy ∧ Below B w0 w' := by
  obtain ⟨okx, oky, h, hD⟩ := hP
  by_cases hL : Lx.length < 4096
  · refine (put_room_fr p A n c l w w0 B (fun k => okx k ∨ w.heap.size ≤ k) gx Lx dx (h.x.mono (fun _ h => Or.inl h)) hC hl hB h.bw h.bgx hL (fun k hk => Or.inr hk)).mono ?_
    rintro e w' ⟨rfl, hQ, hB', hs, hf⟩
    refine ⟨by rw [decide_eq_true hL], ?_, hB'⟩
    have := h.xstep hD hQ hs hf
    unfold putL putD
    rw [if_pos hL, if_pos hL]
    exact this
  · refine (put_full_fr p A n c w w0 B (fun k => okx k ∨ w.heap.size ≤ k) gx Lx dx (h.x.mono (fun _ h => Or.inl h)) hB h.bgx (by omega) hd0 hd).mono ?_
    rintro e w' ⟨rfl, hQ, hB', hs, hf⟩
    refine ⟨by rw [decide_eq_false hL], ?_, hB'⟩
    have := h.xstep hD hQ hs hf
    unfold putL putD
    rw [if_neg hL, if_neg hL]
    exact this
theorem yput (p : Int) (A : Option Addr) (n c : Nat) (l : List Int) (D : Nat → Prop) (wr w w0 : World) (B gx gy : Nat) (Lx Ly : List (Int × List Int)) (dx dy : Int) (hP : PQ D wr B w gx gy Lx Ly dx dy) (hC : Kd.C (Kd.int .u8) w A n l) (hl : l.length ≤ 1000000) (hB : Below B w0 w) (hd0 : 0 ≤ dy) (hd : dy ≤ 1000000) :
    Calls Try.prog 31 #[.pointer (some ⟨gy, 0, none⟩), .int .i64 p, .slice A n c] w fun e w' => e = .returned (.bool (decide (Ly.length < 4096))) ∧ PQ D wr B w' gx gy Lx (putL p l Ly) dx (putD Ly dy) ∧ Below B w0 w' := by
  obtain ⟨okx, oky, h, hD⟩ := hP
  by_cases hL : Ly.length < 4096
  · refine (rput_room p A n c l w w0 B (fun k => oky k ∨ w.heap.size ≤ k) gy Ly dy (h.y.mono (fun _ h => Or.inl h)) hC hl hB h.bw h.bgy hL (fun k hk => Or.inr hk)).mono ?_
    rintro e w' ⟨rfl, hQ, hB', hs, hf⟩
    refine ⟨by rw [decide_eq_true hL], ?_, hB'⟩
    have := h.ystep hD hQ hs hf
    unfold putL putD
    rw [if_pos hL, if_pos hL]
    exact this
  · refine (rput_full p A n c w w0 B (fun k => oky k ∨ w.heap.size ≤ k) gy Ly dy (h.y.mono (fun _ h => Or.inl h)) hB h.bgy (by omega) hd0 hd).mono ?_
    rintro e w' ⟨rfl, hQ, hB', hs, hf⟩
    refine ⟨by rw [decide_eq_false hL], ?_, hB'⟩
    have := h.ystep hD hQ hs hf
    unfold putL putD
    rw [if_neg hL, if_neg hL]
    exact this
theorem xcopy (i : Int) (D : Nat → Prop) (wr w w0 : World) (B gx gy : Nat) (Lx Ly : List (Int × List Int)) (dx dy : Int) (hP : PQ D wr B w gx gy Lx Ly dx dy) (hlen : Lx.length ≤ 1000000) (hl : ∀ x ∈ Lx, x.2.length ≤ 1000000) (hB : Below B w0 w) (hd0 : 0 ≤ dx) (hd : dx ≤ 1000000) :
    Calls Try.prog 26 #[.pointer (some ⟨gx, 0, none⟩), .int .i64 i] w fun e w' => e = .returned (.bool (decide (inQ i Lx ∧ Lx.length < 4096))) ∧ PQ D wr B w' gx gy (copyL i Lx) Ly (copyD i Lx dx) dy ∧ Below B w0 w' := by
  obtain ⟨okx, oky, h, hD⟩ := hP
  by_cases hi : inQ i Lx
  · obtain ⟨k, rfl⟩ := Int.eq_ofNat_of_zero_le hi.1
    have hk : k < Lx.length := by have := hi.2; omega
    have hit : itemAt (k : Int) Lx = Lx.getD k (0, []) := by unfold itemAt; rw [if_pos hi]; rfl
    have hml : (itemAt (k : Int) Lx).2.length ≤ 1000000 := by
      rw [hit, List.getD_eq_getElem?_getD, List.getElem?_eq_getElem hk]
      exact hl _ (List.getElem_mem hk)
    by_cases hL : Lx.length < 4096
    · refine (copy_in_fr k (itemAt (k : Int) Lx).1 (itemAt (k : Int) Lx).2 w w0 B (fun j => okx j ∨ w.heap.size ≤ j) gx Lx dx (h.x.mono (fun _ h => Or.inl h)) hB h.bw h.bgx hk hlen hit.symm hml hL (fun j hj => Or.inr hj)).mono ?_
      rintro e w' ⟨rfl, hQ, hB', hs, hf⟩
      refine ⟨by rw [decide_eq_true ⟨hi, hL⟩], ?_, hB'⟩
      have := h.xstep hD hQ hs hf
      unfold copyL copyD putL putD
      rw [if_pos hi, if_pos hi, if_pos hL, if_pos hL]
      exact this
    · refine (copy_full_fr k (itemAt (k : Int) Lx).1 (itemAt (k : Int) Lx).2 w w0 B (fun j => okx j ∨ w.heap.size ≤ j) gx Lx dx (h.x.mono (fun _ h => Or.inl h)) hB h.bw h.bgx hk hlen hit.symm (by omega) hd0 hd).mono ?_
      rintro e w' ⟨rfl, hQ, hB', hs, hf⟩
      refine ⟨by rw [decide_eq_false (fun h => hL h.2)], ?_, hB'⟩
      have := h.xstep hD hQ hs hf
      unfold copyL copyD putL putD
      rw [if_pos hi, if_pos hi, if_neg hL, if_neg hL]
      exact this
  · refine (copy_out i w w0 B okx gx Lx dx h.x (by unfold inQ at hi; omega)).mono ?_
    rintro e w' ⟨rfl, hb⟩
    refine ⟨by rw [decide_eq_false (fun h => hi h.1)], ?_, reach_to hB h.bw hb⟩
    unfold copyL copyD
    rw [if_neg hi, if_neg hi]
    exact ⟨okx, oky, h.below hb, hD.below hb⟩
theorem yagain (i : Int) (D : Nat → Prop) (wr w w0 : World) (B gx gy : Nat) (Lx Ly : List (Int × List Int)) (dx dy : Int) (hP : PQ D wr B w gx gy Lx Ly dx dy) (hlen : Ly.length ≤ 1000000) (hl : ∀ x ∈ Ly, x.2.length ≤ 1000000) (hB : Below B w0 w) (hd0 : 0 ≤ dy) (hd : dy ≤ 1000000) :
    Calls Try.prog 33 #[.pointer (some ⟨gy, 0, none⟩), .int .i64 i] w fun e w' => e = .returned (.bool (decide (inQ i Ly ∧ Ly.length < 4096))) ∧ PQ D wr B w' gx gy Lx (copyL i Ly) dx (copyD i Ly dy) ∧ Below B w0 w' := by
  obtain ⟨okx, oky, h, hD⟩ := hP
  by_cases hi : inQ i Ly
  · obtain ⟨k, rfl⟩ := Int.eq_ofNat_of_zero_le hi.1
    have hk : k < Ly.length := by have := hi.2; omega
    have hit : itemAt (k : Int) Ly = Ly.getD k (0, []) := by unfold itemAt; rw [if_pos hi]; rfl
    have hml : (itemAt (k : Int) Ly).2.length ≤ 1000000 := by
      rw [hit, List.getD_eq_getElem?_getD, List.getElem?_eq_getElem hk]
      exact hl _ (List.getElem_mem hk)
    by_cases hL : Ly.length < 4096
    · refine (ragain_in k (itemAt (k : Int) Ly).1 (itemAt (k : Int) Ly).2 w w0 B (fun j => oky j ∨ w.heap.size ≤ j) gy Ly dy (h.y.mono (fun _ h => Or.inl h)) hB h.bw h.bgy hk hlen hit.symm hml hL (fun j hj => Or.inr hj)).mono ?_
      rintro e w' ⟨rfl, hQ, hB', hs, hf⟩
      refine ⟨by rw [decide_eq_true ⟨hi, hL⟩], ?_, hB'⟩
      have := h.ystep hD hQ hs hf
      unfold copyL copyD putL putD
      rw [if_pos hi, if_pos hi, if_pos hL, if_pos hL]
      exact this
    · refine (ragain_full k (itemAt (k : Int) Ly).1 (itemAt (k : Int) Ly).2 w w0 B (fun j => oky j ∨ w.heap.size ≤ j) gy Ly dy (h.y.mono (fun _ h => Or.inl h)) hB h.bw h.bgy hk hlen hit.symm (by omega) hd0 hd).mono ?_
      rintro e w' ⟨rfl, hQ, hB', hs, hf⟩
      refine ⟨by rw [decide_eq_false (fun h => hL h.2)], ?_, hB'⟩
      have := h.ystep hD hQ hs hf
      unfold copyL copyD putL putD
      rw [if_pos hi, if_pos hi, if_neg hL, if_neg hL]
      exact this
  · refine (ragain_out i w B oky gy Ly dy h.y (by unfold inQ at hi; omega)).mono ?_
    rintro e w' ⟨rfl, rfl⟩
    have hb := Below.refl w.heap.size w
    refine ⟨by rw [decide_eq_false (fun h => hi h.1)], ?_, reach_to hB h.bw hb⟩
    unfold copyL copyD
    rw [if_neg hi, if_neg hi]
    exact ⟨okx, oky, h.below hb, hD.below hb⟩
end Go.Proofs.Ytjcihhkeehjgdaa
