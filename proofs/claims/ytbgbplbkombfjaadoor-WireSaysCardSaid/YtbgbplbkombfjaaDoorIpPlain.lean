/- Plain laws of headers' bytes. -/
import Derived.Test.YtbgbplbkombfjaaDoorIpHop
namespace Go.Proofs.YtbgbplbkombfjaaDoor
open Go.RowKit Go.Proofs.YtbgbplbkombfjaaDoorW.PrintWords SumPlain
set_option linter.unusedVariables false
set_option linter.unusedSimpArgs false
theorem hdrRaw_length (h : Hdr) : (hdrRaw h).length = 20 := by simp [hdrRaw, adB]
theorem hdrL_length (h : Hdr) : (hdrL h).length = 20 := by rw [hdrL, putL_length, hdrRaw_length]
theorem putL_getD (l : List Int) (a j : Nat) (h1 : j ≠ a) (h2 : j ≠ a + 1) : (putL l (a : Int)).getD j 0 = l.getD j 0 := by
  unfold putL
  split
  · rfl
  · rw [Int.toNat_natCast]
    unfold zeroL
    simp only [List.getD_eq_getElem?_getD]
    rw [List.getElem?_set_ne (by omega), List.getElem?_set_ne (by omega), List.getElem?_set_ne (by omega), List.getElem?_set_ne (by omega)]
theorem hdrL_at (h : Hdr) (j : Nat) (h1 : j ≠ 10) (h2 : j ≠ 11) : (hdrL h).getD j 0 = (hdrRaw h).getD j 0 := putL_getD _ 10 j h1 h2
theorem hdrL_byt (h : Hdr) (hk : h.ok) (hw : h.wf) : Byt (hdrL h) := putL_byt (raw_byt h hk hw) _
theorem hdrL_holds (h : Hdr) (hk : h.ok) (hw : h.wf) : ofL (hdrL h) = 0 := putL_holds _ (raw_byt h hk hw) 10 (by omega) (by rw [hdrRaw_length]; omega)
theorem ad_back (a : Int) (h0 : 0 ≤ a) (h1 : a < 4294967296) : adOf (a / 16777216) (a / 65536 % 256) (a / 256 % 256) (a % 256) = a := by
  unfold adOf
  omega
theorem hdr_fields (h : Hdr) (hk : h.ok) (hw : h.wf) : nuAt (hdrL h) 2 = h.len ∧ nuAt (hdrL h) 4 = h.id ∧ (hdrL h).getD 8 0 = h.ttl ∧ (hdrL h).getD 9 0 = h.proto ∧ adAt (hdrL h) 12 = h.src ∧ adAt (hdrL h) 16 = h.dst := by
  obtain ⟨⟨h0, h0'⟩, ⟨h1, h1'⟩, ⟨h2, h2'⟩, h3, h3'⟩ := hk
  obtain ⟨⟨h4, h4'⟩, h5, h5'⟩ := hw
  refine ⟨?_, ?_, ?_, ?_, ?_, ?_⟩
  · unfold nuAt; rw [hdrL_at h 2 (by omega) (by omega), hdrL_at h 3 (by omega) (by omega)]; show h.len / 256 * 256 + h.len % 256 = h.len; omega
  · unfold nuAt; rw [hdrL_at h 4 (by omega) (by omega), hdrL_at h 5 (by omega) (by omega)]; show h.id / 256 * 256 + h.id % 256 = h.id; omega
  · rw [hdrL_at h 8 (by omega) (by omega)]; rfl
  · rw [hdrL_at h 9 (by omega) (by omega)]; rfl
  · unfold adAt; rw [hdrL_at h 12 (by omega) (by omega), hdrL_at h 13 (by omega) (by omega), hdrL_at h 14 (by omega) (by omega), hdrL_at h 15 (by omega) (by omega)]; exact ad_back _ h4 h4'
  · unfold adAt; rw [hdrL_at h 16 (by omega) (by omega), hdrL_at h 17 (by omega) (by omega), hdrL_at h 18 (by omega) (by omega), hdrL_at h 19 (by omega) (by omega)]; exact ad_back _ h5 h5'
theorem hdr_good4 (h : Hdr) : good4 (hdrL h) := by
  refine ⟨?_, ?_, ?_, ?_⟩
  · rw [hdrL_at h 0 (by omega) (by omega)]; rfl
  · rw [hdrL_at h 1 (by omega) (by omega)]; rfl
  · rw [hdrL_at h 6 (by omega) (by omega)]; rfl
  · rw [hdrL_at h 7 (by omega) (by omega)]; rfl
theorem read20_hdrL (h : Hdr) (hk : h.ok) (hw : h.wf) : read20 (hdrL h) = (h, none) := by
  obtain ⟨e0, e1, e2, e3, e4, e5⟩ := hdr_fields h hk hw
  have hl : ¬ h.len < 20 := by have := hk.1.1; omega
  have hg : ¬ ¬ ((hdrL h).getD 0 0 = 69 ∧ (hdrL h).getD 1 0 = 0 ∧ (hdrL h).getD 6 0 = 0 ∧ (hdrL h).getD 7 0 = 0) := fun hn => hn (hdr_good4 h)
  unfold read20
  rw [if_neg hg, if_neg (Decidable.not_not.2 (hdrL_holds h hk hw)), e0, if_neg hl, e1, e2, e3, e4, e5]
theorem readL_hdrL (h : Hdr) (hk : h.ok) (hw : h.wf) (more : List Int) : readL (hdrL h ++ more) = (h, none) := by
  unfold readL
  rw [if_neg (by rw [List.length_append, hdrL_length]; omega), List.take_left' (hdrL_length h)]
  exact read20_hdrL h hk hw
theorem readL_hdrL' (h : Hdr) (hk : h.ok) (hw : h.wf) : readL (hdrL h) = (h, none) := by
  have := readL_hdrL h hk hw []
  rwa [List.append_nil] at this
theorem hopL_hdrL (h : Hdr) (hk : h.ok) (hw : h.wf) (more : List Int) : hopL (hdrL h ++ more) = if h.ttl = 0 then ([], some 0) else (hdrL { h with ttl := h.ttl - 1 }, none) := by
  unfold hopL
  rw [readL_hdrL h hk hw more]
theorem hdrL_inj (h g : Hdr) (hk : h.ok) (hw : h.wf) (gk : g.ok) (gw : g.wf) : (hdrL h = hdrL g) ↔ h = g := by
  constructor
  · intro e
    have h1 := read20_hdrL h hk hw
    have h2 := read20_hdrL g gk gw
    rw [e, h2] at h1
    exact (Prod.mk.inj h1).1.symm
  · rintro rfl; rfl
/-- With one bit turned it is no header. -/
theorem readL_turned (h : Hdr) (hk : h.ok) (hw : h.wf) (j : Nat) (f : Int) (t : Nat) (ht : t < 8) (hj : j < 20) (hf : f = (hdrL h).getD j 0 + 2 ^ t ∨ f = (hdrL h).getD j 0 - 2 ^ t) : (readL ((hdrL h).set j f)).2 ≠ none := by
  have hz := tells (hdrL h) j f t ht (by rw [hdrL_length]; exact hj) (hdrL_holds h hk hw) hf
  unfold readL
  rw [if_neg (by rw [List.length_set, hdrL_length]; omega), List.take_of_length_le (by rw [List.length_set, hdrL_length]; omega)]
  unfold read20
  split
  · simp
  · first | (rw [if_pos hz]; simp; done) | simp
theorem readL_cut (l : List Int) (n : Nat) (h : n < 20) : (readL (l.take n)).2 ≠ none := by
  unfold readL
  rw [if_pos (by rw [List.length_take]; omega)]
  simp
end Go.Proofs.YtbgbplbkombfjaaDoor
