/- Unlike messages have unlike bytes: the plain law. -/
import Derived.Test.YtbgbplbkombfjaaDoorWFirst
import Derived.Test.YtbgbplbkombfjaaDoorIpPlain
namespace Go.Proofs.YtbgbplbkombfjaaDoor
open Go.RowKit Go.Proofs.YtbgbplbkombfjaaDoorW.PrintWords SumPlain
set_option linter.unusedVariables false
set_option linter.unusedSimpArgs false
theorem adB_app (a b : Int) (x y : List Int) (h : adB a ++ x = adB b ++ y) : a = b ∧ x = y := by
  simp only [adB, List.cons_append, List.nil_append, List.cons.injEq] at h
  exact ⟨by omega, h.2.2.2.2⟩
theorem adB_one (a b : Int) (h : adB a = adB b) : a = b := (adB_app a b [] [] (by simpa using h)).1
theorem nuB_app (a b : Int) (x y : List Int) (h : nuB a ++ x = nuB b ++ y) : a = b ∧ x = y := by
  simp only [nuB, List.cons_append, List.nil_append, List.cons.injEq] at h
  exact ⟨by omega, h.2.2⟩
theorem nuB_one (a b : Int) (h : nuB a = nuB b) : a = b := (nuB_app a b [] [] (by simpa using h)).1
theorem adsB_inj : ∀ (l k : List Int), adsB l = adsB k → l = k
  | [], [], _ => rfl
  | [], b :: k, h => by have := congrArg List.length h; rw [adsB_len, adsB_len] at this; simp at this
  | a :: l, [], h => by have := congrArg List.length h; rw [adsB_len, adsB_len] at this; simp at this
  | a :: l, b :: k, h => by
    have h1 : adB a ++ adsB l = adB b ++ adsB k := by simpa [adsB] using h
    obtain ⟨e1, e2⟩ := adB_app _ _ _ _ h1
    rw [e1, adsB_inj l k e2]
theorem rawM_zero (m : Msg) (j : Nat) (h : j = 2 ∨ j = 3) : (rawM m).getD j 0 = 0 := by
  rcases h with rfl | rfl <;> rfl
theorem rawM_of (m n : Msg) (h : msgL m = msgL n) : rawM m = rawM n := by
  have hl : (rawM m).length = (rawM n).length := by
    have := congrArg List.length h
    rwa [msgL, msgL, putL_length, putL_length] at this
  have hj : ∀ j, (rawM m).getD j 0 = (rawM n).getD j 0 := by
    intro j
    by_cases h2 : j = 2 ∨ j = 3
    · rw [rawM_zero m j h2, rawM_zero n j h2]
    · have e1 := putL_getD (rawM m) 2 j (by omega) (by omega)
      have e2 := putL_getD (rawM n) 2 j (by omega) (by omega)
      rw [← e1, ← e2]
      have : putL (rawM m) ((2 : Nat) : Int) = putL (rawM n) ((2 : Nat) : Int) := h
      rw [this]
  apply List.ext_getElem hl
  intro i h1 h2
  have := hj i
  rwa [List.getD_eq_getElem?_getD, List.getD_eq_getElem?_getD, List.getElem?_eq_getElem h1, List.getElem?_eq_getElem h2] at this
theorem rawM_kind (m n : Msg) (h : rawM m = rawM n) : m.kind = n.kind := by
  have h0 : 32 + m.kind = 32 + n.kind := congrArg (fun l => l.getD 0 0) h
  omega
theorem msgL_inj (m n : Msg) (hm : m.ok) (hn : n.ok) (hk : 1 ≤ m.kind ∧ m.kind ≤ 5) : (msgL m = msgL n) ↔ m = n := by
  constructor
  · intro h
    have hr := rawM_of m n h
    have hkk := rawM_kind m n hr
    obtain ⟨K, src, dst, ksrc, kgrp, rank, cost, only, l⟩ := m
    obtain ⟨K', src', dst', ksrc', kgrp', rank', cost', only', l'⟩ := n
    simp only at hkk hk
    subst hkk
    obtain rfl | rfl | rfl | rfl | rfl : K = 1 ∨ K = 2 ∨ K = 3 ∨ K = 4 ∨ K = 5 := by omega
    · simp [Msg.ok] at hm hn
      obtain ⟨_, _, a1, a2, a3, a4, a5, a6⟩ := hm
      obtain ⟨_, _, b1, b2, b3, b4, b5, b6⟩ := hn
      rw [rawM1, rawM1, List.append_assoc, List.append_assoc, List.append_cancel_left_eq] at hr
      obtain ⟨e1, hr⟩ := adB_app _ _ _ _ hr
      have e2 := nuB_one _ _ hr
      subst e1 a1 a2 a3 a4 a5 a6 b1 b2 b3 b4 b5 b6
      simp at e2
      subst e2
      rfl
    · simp [Msg.ok] at hm hn
      obtain ⟨_, _, _, a4, a5, a6, a7⟩ := hm
      obtain ⟨_, _, _, b4, b5, b6, b7⟩ := hn
      rw [rawM2, rawM2] at hr
      simp only [List.append_assoc, List.append_cancel_left_eq] at hr
      obtain ⟨e1, hr⟩ := adB_app _ _ _ _ hr
      obtain ⟨e2, hr⟩ := adB_app _ _ _ _ hr
      obtain ⟨e3, hr⟩ := adB_app _ _ _ _ hr
      have e4 := adB_one _ _ hr
      subst e1 e2 e3 e4 a4 a5 a6 a7 b4 b5 b6 b7
      rfl
    · simp [Msg.ok] at hm hn
      obtain ⟨_, _, _, a4, a5, a6, a7⟩ := hm
      obtain ⟨_, _, _, b4, b5, b6, b7⟩ := hn
      rw [rawM3, rawM3] at hr
      simp only [List.append_assoc, List.append_cancel_left_eq] at hr
      obtain ⟨e1, hr⟩ := adB_app _ _ _ _ hr
      obtain ⟨e2, hr⟩ := adB_app _ _ _ _ hr
      obtain ⟨e3, hr⟩ := adB_app _ _ _ _ hr
      have e4 := nuB_one _ _ hr
      subst e1 e2 e3 a4 a5 a6 a7 b4 b5 b6 b7
      simp at e4
      subst e4
      rfl
    · simp [Msg.ok] at hm hn
      obtain ⟨_, _, _, a4, a5, a6, a7⟩ := hm
      obtain ⟨_, _, _, b4, b5, b6, b7⟩ := hn
      rw [rawM4, rawM4] at hr
      simp only [List.append_assoc, List.append_cancel_left_eq] at hr
      obtain ⟨e1, hr⟩ := adB_app _ _ _ _ hr
      obtain ⟨e2, hr⟩ := adB_app _ _ _ _ hr
      simp only [List.cons_append, List.nil_append, List.cons.injEq] at hr
      obtain ⟨e3, _, hr⟩ := hr
      have e4 := adsB_inj _ _ hr
      have e5 : only = only' := by cases only <;> cases only' <;> simp at e3 <;> rfl
      subst e1 e2 e4 e5 a4 a5 a6 a7 b4 b5 b6 b7
      rfl
    · simp [Msg.ok] at hm hn
      obtain ⟨_, _, _, a4, a5, a6, a7, a8, a9⟩ := hm
      obtain ⟨_, _, _, b4, b5, b6, b7, b8, b9⟩ := hn
      rw [rawM5, rawM5] at hr
      simp only [List.append_assoc, List.append_cancel_left_eq] at hr
      obtain ⟨e1, hr⟩ := adB_app _ _ _ _ hr
      have e2 := adB_one _ _ hr
      subst e1 e2 a4 a5 a6 a7 a8 a9 b4 b5 b6 b7 b8 b9
      rfl
  · rintro rfl; rfl
end Go.Proofs.YtbgbplbkombfjaaDoor
