/- What stands where in a message's bytes: the plain law of the document's ReadMsg. -/
import Derived.Test.YtbgbplbkombfjaaDoorWReadL
namespace Go.Proofs.YtbgbplbkombfjaaDoor
open Go.RowKit Go.Proofs.YtbgbplbkombfjaaDoorW.PrintWords SumPlain
set_option linter.unusedVariables false
set_option linter.unusedSimpArgs false
theorem getD_cut (l : List Int) (a k i : Nat) (h : i < k) : ((l.drop a).take k).getD i 0 = l.getD (a + i) 0 := by
  simp only [List.getD_eq_getElem?_getD, List.getElem?_take, List.getElem?_drop, h, if_true]
theorem nx_at (k a : Nat) (l : List Int) (h : a + k ≤ l.length) : nx k (l.drop a, false) = ((l.drop a).take k, l.drop (a + k), false) := by
  unfold nx
  rw [if_neg (by simp only [List.length_drop]; omega)]
  simp only [List.drop_drop]
theorem rA_at (a : Nat) (l : List Int) (h : a + 4 ≤ l.length) : rA (l.drop a, false) = (adAt l a, (l.drop (a + 4), false)) := by
  unfold rA
  rw [nx_at 4 a l h]
  simp only [adAt]
  rw [getD_cut l a 4 0 (by omega), getD_cut l a 4 (0 + 1) (by omega), getD_cut l a 4 (0 + 2) (by omega), getD_cut l a 4 (0 + 3) (by omega)]
  simp
theorem rN_at (a : Nat) (l : List Int) (h : a + 2 ≤ l.length) : rN (l.drop a, false) = (nuAt l a, (l.drop (a + 2), false)) := by
  unfold rN
  rw [nx_at 2 a l h]
  simp only [nuAt]
  rw [getD_cut l a 2 0 (by omega), getD_cut l a 2 (0 + 1) (by omega)]
  simp
theorem rB_at (a : Nat) (l : List Int) (h : a + 1 ≤ l.length) : rB (l.drop a, false) = (l.getD a 0, (l.drop (a + 1), false)) := by
  unfold rB
  rw [nx_at 1 a l h]
  simp only
  rw [getD_cut l a 1 0 (by omega)]
  simp
def adsAt (l : List Int) (a k : Nat) : List Int := (List.range k).map (fun i => adAt l (a + 4 * i))
theorem adsAt_snoc (l : List Int) (a k : Nat) : adsAt l a (k + 1) = adsAt l a k ++ [adAt l (a + 4 * k)] := by
  unfold adsAt; rw [List.range_succ]; simp
theorem adsAt_cons (l : List Int) (a k : Nat) : adsAt l a (k + 1) = adAt l a :: adsAt l (a + 4) k := by
  unfold adsAt
  rw [List.range_succ_eq_map]
  simp only [List.map_cons, List.map_map, Nat.mul_zero, Nat.add_zero, List.cons.injEq, true_and]
  refine List.map_congr_left (fun i _ => ?_)
  simp only [Function.comp]
  rw [show a + 4 * (i.succ) = a + 4 + 4 * i by omega]
theorem rLs_at : ∀ (k a : Nat) (l : List Int), a + 4 * k ≤ l.length → rLs k (l.drop a, false) = (adsAt l a k, (l.drop (a + 4 * k), false))
  | 0, a, l, _ => by simp [rLs, adsAt]
  | k + 1, a, l, h => by
    have h1 := rA_at a l (by omega)
    have h2 := rLs_at k (a + 4) l (by omega)
    rw [adsAt_cons]
    simp only [rLs, h1, h2]
    rw [show a + 4 + 4 * k = a + 4 * (k + 1) by omega]
/-- Fewer than so many bytes are left, or it ran out before. -/
def Lack (d : Nat) (s : List Int × Bool) : Prop := s.2 = true ∨ s.1.length < d
theorem lack_nx (k d : Nat) (s : List Int × Bool) (h : Lack (k + d) s) : Lack d (nx k s).2 := by
  unfold nx
  split
  · exact Or.inl rfl
  · rcases h with h | h
    · exact Or.inl h
    · exact Or.inr (by simp only [List.length_drop]; omega)
theorem lack_A (d : Nat) (s : List Int × Bool) (h : Lack (4 + d) s) : Lack d (rA s).2 := lack_nx 4 d s h
theorem lack_N (d : Nat) (s : List Int × Bool) (h : Lack (2 + d) s) : Lack d (rN s).2 := lack_nx 2 d s h
theorem lack_B (d : Nat) (s : List Int × Bool) (h : Lack (1 + d) s) : Lack d (rB s).2 := lack_nx 1 d s h
theorem lack_Ls : ∀ (k d : Nat) (s : List Int × Bool), Lack (4 * k + d) s → Lack d (rLs k s).2
  | 0, d, s, h => by simpa [rLs] using h
  | k + 1, d, s, h => by
    have h1 := lack_A (4 * k + d) s (by rwa [show 4 + (4 * k + d) = 4 * (k + 1) + d by omega])
    exact lack_Ls k d _ h1
theorem lack_zero (s : List Int × Bool) (h : Lack 0 s) : s.2 = true := by
  rcases h with h | h
  · exact h
  · omega
theorem lack_more (d e : Nat) (s : List Int × Bool) (h : Lack d s) (hd : d ≤ e) : Lack e s := by
  rcases h with h | h
  · exact Or.inl h
  · exact Or.inr (by omega)
/-- How many bytes a message of a kind has, by its thirteenth byte. -/
def sizeR (K : Int) (l : List Int) : Nat := if K = 1 then 10 else if K = 2 then 20 else if K = 3 then 18 else if K = 4 then 14 + 4 * (l.getD 13 0).toNat else 12
def posM (K : Int) (l : List Int) : Msg :=
  if K = 1 then ⟨1, adAt l 4, 0, 0, 0, nuAt l 8, 0, false, []⟩
  else if K = 2 then ⟨2, adAt l 4, adAt l 8, adAt l 12, adAt l 16, 0, 0, false, []⟩
  else if K = 3 then ⟨3, adAt l 4, 0, adAt l 8, adAt l 12, 0, nuAt l 16, false, []⟩
  else if K = 4 then ⟨4, adAt l 4, 0, 0, adAt l 8, 0, 0, decide (l.getD 12 0 = 1), adsAt l 14 (l.getD 13 0).toNat⟩
  else ⟨5, adAt l 4, 0, 0, adAt l 8, 0, 0, false, []⟩
def onlyAt (K : Int) (l : List Int) : Int := if K = 4 then l.getD 12 0 else 0
theorem msgR_pos (K : Int) (hK : 1 ≤ K ∧ K ≤ 5) (l : List Int) (h : sizeR K l ≤ l.length) : msgR K (l.drop 4, false) = (posM K l, onlyAt K l, (l.drop (sizeR K l), false)) := by
  obtain rfl | rfl | rfl | rfl | rfl : K = 1 ∨ K = 2 ∨ K = 3 ∨ K = 4 ∨ K = 5 := by omega
  · have hs : sizeR 1 l = 10 := by simp [sizeR]
    rw [hs] at h ⊢
    have e1 := rA_at 4 l (by omega)
    have e2 := rN_at 8 l (by omega)
    simp only [Nat.reduceAdd] at e1 e2
    simp [msgR, posM, onlyAt, e1, e2]
  · have hs : sizeR 2 l = 20 := by simp [sizeR]
    rw [hs] at h ⊢
    have e1 := rA_at 4 l (by omega)
    have e2 := rA_at 8 l (by omega)
    have e3 := rA_at 12 l (by omega)
    have e4 := rA_at 16 l (by omega)
    simp only [Nat.reduceAdd] at e1 e2 e3 e4
    simp [msgR, posM, onlyAt, e1, e2, e3, e4]
  · have hs : sizeR 3 l = 18 := by simp [sizeR]
    rw [hs] at h ⊢
    have e1 := rA_at 4 l (by omega)
    have e2 := rA_at 8 l (by omega)
    have e3 := rA_at 12 l (by omega)
    have e4 := rN_at 16 l (by omega)
    simp only [Nat.reduceAdd] at e1 e2 e3 e4
    simp [msgR, posM, onlyAt, e1, e2, e3, e4]
  · have hs : sizeR 4 l = 14 + 4 * (l.getD 13 0).toNat := by simp [sizeR]
    rw [hs] at h ⊢
    have e1 := rA_at 4 l (by omega)
    have e2 := rA_at 8 l (by omega)
    have e3 := rB_at 12 l (by omega)
    have e4 := rB_at 13 l (by omega)
    have e5 := rLs_at (l.getD 13 0).toNat 14 l (by omega)
    simp only [Nat.reduceAdd] at e1 e2 e3 e4
    have hM : ∀ s, msgR 4 s = (⟨4, (rA s).1, 0, 0, (rA (rA s).2).1, 0, 0, decide ((rB (rA (rA s).2).2).1 = 1), (rLs (rB (rB (rA (rA s).2).2).2).1.toNat (rB (rB (rA (rA s).2).2).2).2).1⟩, (rB (rA (rA s).2).2).1, (rLs (rB (rB (rA (rA s).2).2).2).1.toNat (rB (rB (rA (rA s).2).2).2).2).2) := fun s => by simp [msgR]
    have hP : posM 4 l = ⟨4, adAt l 4, 0, 0, adAt l 8, 0, 0, decide (l.getD 12 0 = 1), adsAt l 14 (l.getD 13 0).toNat⟩ := by simp [posM]
    have hO : onlyAt 4 l = l.getD 12 0 := by simp [onlyAt]
    rw [hM, hP, hO, e1]
    simp only
    rw [e2]
    simp only
    rw [e3]
    simp only
    rw [e4]
    simp only
    rw [e5]
  · have hs : sizeR 5 l = 12 := by simp [sizeR]
    rw [hs] at h ⊢
    have e1 := rA_at 4 l (by omega)
    have e2 := rA_at 8 l (by omega)
    simp only [Nat.reduceAdd] at e1 e2
    simp [msgR, posM, onlyAt, e1, e2]
theorem msgR_short (K : Int) (hK : 1 ≤ K ∧ K ≤ 5) (l : List Int) (h4 : 4 ≤ l.length) (h : l.length < sizeR K l) : (msgR K (l.drop 4, false)).2.2.2 = true := by
  have hlen : (l.drop 4).length = l.length - 4 := List.length_drop
  obtain rfl | rfl | rfl | rfl | rfl : K = 1 ∨ K = 2 ∨ K = 3 ∨ K = 4 ∨ K = 5 := by omega
  · have hs : sizeR 1 l = 10 := by simp [sizeR]
    have h0 : Lack 6 (l.drop 4, false) := Or.inr (by simp only; omega)
    have := lack_zero _ (lack_N 0 _ (lack_A 2 _ h0))
    simpa [msgR] using this
  · have hs : sizeR 2 l = 20 := by simp [sizeR]
    have h0 : Lack 16 (l.drop 4, false) := Or.inr (by simp only; omega)
    have := lack_zero _ (lack_A 0 _ (lack_A 4 _ (lack_A 8 _ (lack_A 12 _ h0))))
    simpa [msgR] using this
  · have hs : sizeR 3 l = 18 := by simp [sizeR]
    have h0 : Lack 14 (l.drop 4, false) := Or.inr (by simp only; omega)
    have := lack_zero _ (lack_N 0 _ (lack_A 2 _ (lack_A 6 _ (lack_A 10 _ h0))))
    simpa [msgR] using this
  · have hs : sizeR 4 l = 14 + 4 * (l.getD 13 0).toNat := by simp [sizeR]
    have hM : ∀ s, (msgR 4 s).2.2 = (rLs (rB (rB (rA (rA s).2).2).2).1.toNat (rB (rB (rA (rA s).2).2).2).2).2 := fun s => by simp [msgR]
    rw [hM]
    by_cases h14 : l.length < 14
    · have h0 : Lack 10 (l.drop 4, false) := Or.inr (by simp only; omega)
      have h1 := lack_B 0 _ (lack_B 1 _ (lack_A 2 _ (lack_A 6 _ h0)))
      exact lack_zero _ (lack_Ls _ 0 _ (lack_more 0 _ _ h1 (by omega)))
    · have e1 := rA_at 4 l (by omega)
      have e2 := rA_at 8 l (by omega)
      have e3 := rB_at 12 l (by omega)
      have e4 := rB_at 13 l (by omega)
      simp only [Nat.reduceAdd] at e1 e2 e3 e4
      rw [e1]
      simp only
      rw [e2]
      simp only
      rw [e3]
      simp only
      rw [e4]
      simp only
      refine lack_zero _ (lack_Ls _ 0 _ (Or.inr ?_))
      simp only [List.length_drop]
      omega
  · have hs : sizeR 5 l = 12 := by simp [sizeR]
    have h0 : Lack 8 (l.drop 4, false) := Or.inr (by simp only; omega)
    have := lack_zero _ (lack_A 0 _ (lack_A 4 _ h0))
    simpa [msgR] using this
theorem adAt_ad (l : List Int) (h : Byt l) (i : Nat) : isAd (adAt l i) := by
  have h0 := byt_getD h i
  have h1 := byt_getD h (i + 1)
  have h2 := byt_getD h (i + 2)
  have h3 := byt_getD h (i + 3)
  unfold isAd adAt adOf
  omega
theorem posM_wf (K : Int) (l : List Int) (h : Byt l) : (posM K l).wf := by
  have z : isAd 0 := by unfold isAd; omega
  have a := adAt_ad l h
  unfold posM Msg.wf
  split
  · exact ⟨a 4, z, z, z, fun a ha => by simp at ha⟩
  · split
    · exact ⟨a 4, a 8, a 12, a 16, fun a ha => by simp at ha⟩
    · split
      · exact ⟨a 4, z, a 8, a 12, fun a ha => by simp at ha⟩
      · split
        · refine ⟨a 4, z, z, a 8, fun x hx => ?_⟩
          simp only [adsAt, List.mem_map] at hx
          obtain ⟨i, _, rfl⟩ := hx
          exact a _
        · exact ⟨a 4, z, z, a 8, fun a ha => by simp at ha⟩
end Go.Proofs.YtbgbplbkombfjaaDoor
