/- What was written is read; what is read was written: the plain law. -/
import Derived.Test.YtbgbplbkombfjaaDoorWBackM
import Derived.Test.YtbgbplbkombfjaaDoorWRMsg
namespace Go.Proofs.YtbgbplbkombfjaaDoor
open Go.RowKit Go.Proofs.YtbgbplbkombfjaaDoorW.PrintWords SumPlain
set_option linter.unusedVariables false
set_option linter.unusedSimpArgs false
theorem nx_inv (k : Nat) (s : List Int × Bool) (h : (nx k s).2.2 = false) : s.1 = (nx k s).1 ++ (nx k s).2.1 ∧ (nx k s).1.length = k ∧ s.2 = false := by
  unfold nx at *
  split at h
  · simp at h
  · rename_i hn
    rw [if_neg hn]
    exact ⟨(List.take_append_drop _ _).symm, by rw [List.length_take]; omega, h⟩
theorem ad_of4 (l : List Int) (h : Byt l) (hl : l.length = 4) : adB (adAt l 0) = l ∧ isAd (adAt l 0) := by
  obtain ⟨a, b, c, d, rfl⟩ : ∃ a b c d, l = [a, b, c, d] := by
    match l, hl with
    | [a, b, c, d], _ => exact ⟨a, b, c, d, rfl⟩
  have ha := h a (by simp)
  have hb := h b (by simp)
  have hc := h c (by simp)
  have hd := h d (by simp)
  have e : adAt [a, b, c, d] 0 = ((a * 256 + b) * 256 + c) * 256 + d := rfl
  rw [e]
  unfold adB isAd
  refine ⟨?_, by omega, by omega⟩
  simp only [List.cons.injEq, and_true]
  omega
theorem nu_of2 (l : List Int) (h : Byt l) (hl : l.length = 2) : nuB (nuAt l 0) = l ∧ 0 ≤ nuAt l 0 ∧ nuAt l 0 ≤ 65535 := by
  obtain ⟨a, b, rfl⟩ : ∃ a b, l = [a, b] := by
    match l, hl with
    | [a, b], _ => exact ⟨a, b, rfl⟩
  have ha := h a (by simp)
  have hb := h b (by simp)
  have e : nuAt [a, b] 0 = a * 256 + b := rfl
  rw [e]
  unfold nuB
  refine ⟨?_, by omega, by omega⟩
  simp only [List.cons.injEq, and_true]
  omega
theorem rA_inv (s : List Int × Bool) (h : Byt s.1) (hf : (rA s).2.2 = false) : s.1 = adB (rA s).1 ++ (rA s).2.1 ∧ s.2 = false := by
  obtain ⟨h1, h2, h3⟩ := nx_inv 4 s hf
  have h4 := (ad_of4 (nx 4 s).1 (nx_byt 4 s h).1 h2).1
  refine ⟨?_, h3⟩
  have e : adB (rA s).1 = (nx 4 s).1 := h4
  rw [e]
  exact h1
theorem rA_ad (s : List Int × Bool) (h : Byt s.1) : isAd (rA s).1 := by
  by_cases hf : s.1.length < 4
  · have e : (rA s).1 = 0 := by unfold rA nx; rw [if_pos hf]; rfl
    rw [e]; unfold isAd; omega
  · have h2 : (nx 4 s).1.length = 4 := by unfold nx; rw [if_neg hf]; rw [List.length_take]; omega
    exact (ad_of4 (nx 4 s).1 (nx_byt 4 s h).1 h2).2
theorem rN_inv (s : List Int × Bool) (h : Byt s.1) (hf : (rN s).2.2 = false) : s.1 = nuB (rN s).1 ++ (rN s).2.1 ∧ s.2 = false := by
  obtain ⟨h1, h2, h3⟩ := nx_inv 2 s hf
  have h4 := (nu_of2 (nx 2 s).1 (nx_byt 2 s h).1 h2).1
  refine ⟨?_, h3⟩
  have e : nuB (rN s).1 = (nx 2 s).1 := h4
  rw [e]
  exact h1
theorem rB_byt (s : List Int × Bool) (h : Byt s.1) : Byt (rB s).2.1 := (nx_byt 1 s h).2
theorem rB_bd (s : List Int × Bool) (h : Byt s.1) : 0 ≤ (rB s).1 ∧ (rB s).1 ≤ 255 := byt_getD (nx_byt 1 s h).1 0
theorem rB_inv (s : List Int × Bool) (h : Byt s.1) (hf : (rB s).2.2 = false) : s.1 = (rB s).1 :: (rB s).2.1 ∧ s.2 = false := by
  obtain ⟨h1, h2, h3⟩ := nx_inv 1 s hf
  refine ⟨?_, h3⟩
  obtain ⟨a, ha⟩ : ∃ a, (nx 1 s).1 = [a] := List.length_eq_one_iff.1 h2
  have e : (rB s).1 = a := by unfold rB; rw [ha]; rfl
  have e2 : (rB s).2.1 = (nx 1 s).2.1 := rfl
  rw [e, e2]
  rw [ha] at h1
  exact h1
theorem rLs_byt : ∀ (k : Nat) (s : List Int × Bool), Byt s.1 → Byt (rLs k s).2.1 ∧ (∀ a ∈ (rLs k s).1, isAd a) ∧ (rLs k s).1.length = k
  | 0, s, h => ⟨h, fun a ha => by simp [rLs] at ha, rfl⟩
  | k + 1, s, h => by
    obtain ⟨i1, i2, i3⟩ := rLs_byt k (rA s).2 (rA_byt s h)
    refine ⟨i1, fun a ha => ?_, by simp [rLs, i3]⟩
    simp only [rLs, List.mem_cons] at ha
    rcases ha with rfl | ha
    · exact rA_ad s h
    · exact i2 a ha
theorem rLs_inv : ∀ (k : Nat) (s : List Int × Bool), Byt s.1 → (rLs k s).2.2 = false → s.1 = adsB (rLs k s).1 ++ (rLs k s).2.1 ∧ s.2 = false
  | 0, s, h, hf => ⟨by simp [rLs, adsB], hf⟩
  | k + 1, s, h, hf => by
    have hf' : (rLs k (rA s).2).2.2 = false := hf
    obtain ⟨i1, i2⟩ := rLs_inv k (rA s).2 (rA_byt s h) hf'
    obtain ⟨j1, j2⟩ := rA_inv s h i2
    refine ⟨?_, j2⟩
    rw [j1, i1]
    simp [rLs, adsB]
/-- A message as its kind has it, the byte 'only' as it came. -/
def enc (m : Msg) (o : Int) : List Int :=
  if m.kind = 1 then adB m.src ++ nuB m.rank
  else if m.kind = 2 then adB m.src ++ (adB m.dst ++ (adB m.ksrc ++ adB m.kgrp))
  else if m.kind = 3 then adB m.src ++ (adB m.ksrc ++ (adB m.kgrp ++ nuB m.cost))
  else if m.kind = 4 then adB m.src ++ (adB m.kgrp ++ (o :: (m.l.length : Int) :: adsB m.l))
  else adB m.src ++ adB m.kgrp
theorem msgR_kind (K : Int) (hK : 1 ≤ K ∧ K ≤ 5) (s : List Int × Bool) : (msgR K s).1.kind = K := by
  obtain rfl | rfl | rfl | rfl | rfl : K = 1 ∨ K = 2 ∨ K = 3 ∨ K = 4 ∨ K = 5 := by omega
  all_goals simp [msgR]
theorem isAd_zero : isAd 0 := by unfold isAd; omega
theorem msgR_wf (K : Int) (s : List Int × Bool) (h : Byt s.1) : (msgR K s).1.wf := by
  have h1 := rA_byt s h
  have h2 := rA_byt _ h1
  have h3 := rA_byt _ h2
  have a0 := rA_ad s h
  have a1 := rA_ad _ h1
  have a2 := rA_ad _ h2
  have a3 := rA_ad _ h3
  have b1 := rB_byt _ h2
  have b2 := rB_byt _ b1
  have al := (rLs_byt (rB (rB (rA (rA s).2).2).2).1.toNat _ b2).2.1
  have z := isAd_zero
  unfold msgR Msg.wf
  split
  · exact ⟨a0, z, z, z, fun a ha => by simp at ha⟩
  · split
    · exact ⟨a0, a1, a2, a3, fun a ha => by simp at ha⟩
    · split
      · exact ⟨a0, z, a1, a2, fun a ha => by simp at ha⟩
      · split
        · exact ⟨a0, z, z, a1, al⟩
        · exact ⟨a0, z, z, a1, fun a ha => by simp at ha⟩
theorem msgR_only (K : Int) (s : List Int × Bool) (h : Byt s.1) : 0 ≤ (msgR K s).2.1 ∧ (msgR K s).2.1 ≤ 255 := by
  have h1 := rA_byt s h
  have h2 := rA_byt _ h1
  have hb := rB_bd _ h2
  unfold msgR
  split
  · simp
  · split
    · simp
    · split
      · simp
      · split
        · exact hb
        · simp
theorem msgR_inv (K : Int) (hK : 1 ≤ K ∧ K ≤ 5) (s : List Int × Bool) (h : Byt s.1) (hf : (msgR K s).2.2.2 = false) : s.1 = enc (msgR K s).1 (msgR K s).2.1 ++ (msgR K s).2.2.1 := by
  have h1 := rA_byt s h
  have h2 := rA_byt _ h1
  have h3 := rA_byt _ h2
  obtain rfl | rfl | rfl | rfl | rfl : K = 1 ∨ K = 2 ∨ K = 3 ∨ K = 4 ∨ K = 5 := by omega
  · simp only [msgR, if_true] at hf ⊢
    obtain ⟨e1, f1⟩ := rN_inv _ h1 hf
    obtain ⟨e0, f0⟩ := rA_inv _ h f1
    rw [e0, e1]; simp [enc]
  · simp only [msgR, if_true] at hf ⊢
    obtain ⟨e3, f3⟩ := rA_inv _ h3 hf
    obtain ⟨e2, f2⟩ := rA_inv _ h2 f3
    obtain ⟨e1, f1⟩ := rA_inv _ h1 f2
    obtain ⟨e0, f0⟩ := rA_inv _ h f1
    rw [e0, e1, e2, e3]; simp [enc, rA]
  · simp only [msgR, if_true] at hf ⊢
    obtain ⟨e3, f3⟩ := rN_inv _ h3 hf
    obtain ⟨e2, f2⟩ := rA_inv _ h2 f3
    obtain ⟨e1, f1⟩ := rA_inv _ h1 f2
    obtain ⟨e0, f0⟩ := rA_inv _ h f1
    rw [e0, e1, e2, e3]; simp [enc]
  · simp only [msgR, if_true] at hf ⊢
    have b1 := rB_byt _ h2
    have b2 := rB_byt _ b1
    have hn := (rB_bd _ b1).1
    obtain ⟨e4, f4⟩ := rLs_inv _ _ b2 hf
    obtain ⟨e3, f3⟩ := rB_inv _ b1 f4
    obtain ⟨e2, f2⟩ := rB_inv _ h2 f3
    obtain ⟨e1, f1⟩ := rA_inv _ h1 f2
    obtain ⟨e0, f0⟩ := rA_inv _ h f1
    have hl := (rLs_byt (rB (rB (rA (rA s).2).2).2).1.toNat _ b2).2.2
    rw [e0, e1, e2, e3, e4]
    simp [enc, hl, hn]
    exact (Int.max_eq_left hn).symm
  · simp only [msgR, if_true] at hf ⊢
    obtain ⟨e1, f1⟩ := rA_inv _ h1 hf
    obtain ⟨e0, f0⟩ := rA_inv _ h f1
    rw [e0, e1]; simp [enc]
def b2i (b : Bool) : Int := if b then 1 else 0
theorem rawM_enc (m : Msg) (h : m.ok) (hK : 1 ≤ m.kind ∧ m.kind ≤ 5) : (rawM m).drop 4 = enc m (b2i m.only) := by
  obtain ⟨K, src, dst, ksrc, kgrp, rank, cost, only, l⟩ := m
  simp only at hK
  obtain rfl | rfl | rfl | rfl | rfl : K = 1 ∨ K = 2 ∨ K = 3 ∨ K = 4 ∨ K = 5 := by omega
  · simp [Msg.ok] at h
    obtain ⟨_, _, a1, a2, a3, a4, a5, a6⟩ := h
    subst a4
    rw [rawM1]; simp [enc]
  · rw [rawM2]; simp [enc]
  · simp [Msg.ok] at h
    obtain ⟨_, _, _, a4, a5, a6, a7⟩ := h
    subst a5
    rw [rawM3]; simp [enc]
  · rw [rawM4]; cases only <;> simp [enc, b2i]
  · rw [rawM5]; simp [enc]
theorem enc_read (m : Msg) (hw : m.wf) (h : m.ok) (hK : 1 ≤ m.kind ∧ m.kind ≤ 5) (x : List Int) : msgR m.kind (enc m (b2i m.only) ++ x, false) = (m, if m.kind = 4 then b2i m.only else 0, (x, false)) := by
  obtain ⟨K, src, dst, ksrc, kgrp, rank, cost, only, l⟩ := m
  simp only at hK
  obtain ⟨w0, w1, w2, w3, w4⟩ := hw
  simp only at w0 w1 w2 w3 w4
  obtain rfl | rfl | rfl | rfl | rfl : K = 1 ∨ K = 2 ∨ K = 3 ∨ K = 4 ∨ K = 5 := by omega
  · simp [Msg.ok] at h
    obtain ⟨_, _, a1, a2, a3, a4, a5, a6⟩ := h
    subst a1 a2 a3 a4 a5 a6
    simp only [enc, if_true, msgR, List.append_assoc]
    rw [rA_app src w0]
    simp only [rN_app]
    simp
  · simp [Msg.ok] at h
    obtain ⟨_, _, _, a4, a5, a6, a7⟩ := h
    subst a4 a5 a6 a7
    simp only [enc, msgR, List.append_assoc]
    simp [rA_app, w0, w1, w2, w3]
  · simp [Msg.ok] at h
    obtain ⟨_, _, _, a4, a5, a6, a7⟩ := h
    subst a4 a5 a6 a7
    simp [enc, msgR, List.append_assoc, rA_app, rN_app, w0, w1, w2, w3]
  · simp [Msg.ok] at h
    obtain ⟨_, _, _, a4, a5, a6, a7⟩ := h
    subst a4 a5 a6 a7
    simp [enc, msgR, List.append_assoc, rA_app, rB_app, rLs_app l w4, w0, w1, w2, w3]
    cases only <;> simp [b2i]
  · simp [Msg.ok] at h
    obtain ⟨_, _, _, a4, a5, a6, a7, a8, a9⟩ := h
    subst a4 a5 a6 a7 a8 a9
    simp [enc, msgR, List.append_assoc, rA_app, w0, w1, w2, w3]
theorem valid_ok (m : Msg) (h : validL m = none) : (1 ≤ m.kind ∧ m.kind ≤ 5) ∧ m.l.length ≤ 4 ∧ m.ok := by
  unfold validL at h
  split at h
  · cases h
  · split at h
    · cases h
    · split at h
      · cases h
      · rename_i a b c
        exact ⟨Classical.not_not.1 a, by omega, Classical.not_not.1 c⟩
theorem rawM_len (m : Msg) : 8 ≤ (rawM m).length := by
  unfold rawM
  simp [adB]
theorem msgL_len (m : Msg) : (msgL m).length = (rawM m).length := by rw [msgL, putL_length]
theorem msgL_zero (m : Msg) (hw : m.wf) (hv : validL m = none) : ofL (msgL m) = 0 := by
  obtain ⟨hK, hl, hok⟩ := valid_ok m hv
  have hb := rawM_byt m hw hok hK.1 hK.2 hl
  have := rawM_len m
  exact putL_holds (rawM m) hb 2 (by omega) (by omega)
theorem msgL_byt (m : Msg) (hw : m.wf) (hv : validL m = none) : Byt (msgL m) := by
  obtain ⟨hK, hl, hok⟩ := valid_ok m hv
  exact putL_byt (rawM_byt m hw hok hK.1 hK.2 hl) _
theorem msgL_0 (m : Msg) : (msgL m).getD 0 0 = 32 + m.kind := putL_getD (rawM m) 2 0 (by omega) (by omega)
theorem msgL_1 (m : Msg) : (msgL m).getD 1 0 = 0 := putL_getD (rawM m) 2 1 (by omega) (by omega)
theorem readM_msgL (m : Msg) (hw : m.wf) (hv : validL m = none) : readM (msgL m) = (m, none) := by
  obtain ⟨hK, hl, hok⟩ := valid_ok m hv
  have h8 := rawM_len m
  have hl2 := msgL_len m
  have ho : (if m.kind = 4 then b2i m.only else 0) ≤ 1 := by unfold b2i; split <;> (try split) <;> omega
  have hx : (msgL m).getD 0 0 - 32 = m.kind := by rw [msgL_0]; omega
  have he : msgR m.kind ((msgL m).drop 4, false) = (m, if m.kind = 4 then b2i m.only else 0, ([], false)) := by
    have := enc_read m hw hok hK []
    rw [List.append_nil, ← rawM_enc m hok hK, ← msgL_drop] at this
    exact this
  unfold readM
  rw [if_neg (by omega), if_neg (by rw [msgL_zero m hw hv]; simp), if_neg (by rw [msgL_1]; simp), hx, if_neg (by simpa using hK), he]
  simp only [Bool.false_eq_true, if_false, List.length_nil, Nat.lt_irrefl, false_or]
  rw [if_neg (by omega), hv]
theorem readM_inv (l : List Int) (hb : Byt l) (h : (readM l).2 = none) :
    ∃ m : Msg, readM l = (m, none) ∧ m.wf ∧ validL m = none ∧ 4 ≤ l.length ∧ ofL l = 0 ∧ l.getD 0 0 = 32 + m.kind ∧ l.getD 1 0 = 0 ∧ l.drop 4 = (rawM m).drop 4 := by
  unfold readM at h ⊢
  by_cases c1 : l.length < 4
  · rw [if_pos c1] at h; cases h
  rw [if_neg c1] at h ⊢
  by_cases c2 : ofL l ≠ 0
  · rw [if_pos c2] at h; cases h
  rw [if_neg c2] at h ⊢
  by_cases c3 : l.getD 1 0 ≠ 0
  · rw [if_pos c3] at h; cases h
  rw [if_neg c3] at h ⊢
  by_cases c4 : ¬ (1 ≤ l.getD 0 0 - 32 ∧ l.getD 0 0 - 32 ≤ 5)
  · rw [if_pos c4] at h; cases h
  rw [if_neg c4] at h ⊢
  have hK := Classical.not_not.1 c4
  have hbd : Byt ((l.drop 4, false) : List Int × Bool).1 := byt_drop hb 4
  have hw := msgR_wf (l.getD 0 0 - 32) (l.drop 4, false) hbd
  have hk := msgR_kind (l.getD 0 0 - 32) hK (l.drop 4, false)
  have ho := msgR_only (l.getD 0 0 - 32) (l.drop 4, false) hbd
  have hi := msgR_inv (l.getD 0 0 - 32) hK (l.drop 4, false) hbd
  have hon : (l.getD 0 0 - 32 = 4) → (msgR (l.getD 0 0 - 32) (l.drop 4, false)).1.only = decide ((msgR (l.getD 0 0 - 32) (l.drop 4, false)).2.1 = 1) := by intro e; rw [e]; rfl
  generalize hr : msgR (l.getD 0 0 - 32) (l.drop 4, false) = r at *
  obtain ⟨m, o, rest, bad⟩ := r
  simp only at *
  cases bad with
  | true => simp at h
  | false =>
    simp only [Bool.false_eq_true, if_false] at h ⊢
    by_cases c5 : 0 < rest.length ∨ 1 < o
    · rw [if_pos c5] at h; cases h
    rw [if_neg c5] at h ⊢
    cases hv : validL m with
    | some i => rw [hv] at h; cases h
    | none =>
      obtain ⟨hKm, hl, hok⟩ := valid_ok m hv
      have hrest : rest = [] := List.eq_nil_of_length_eq_zero (by omega)
      refine ⟨m, rfl, hw, hv, by omega, by simpa using c2, by omega, by simpa using c3, ?_⟩
      rw [hi rfl, hrest, List.append_nil, rawM_enc m hok hKm]
      by_cases k4 : m.kind = 4
      · have e := hon (by omega)
        have : o = 0 ∨ o = 1 := by omega
        rcases this with rfl | rfl
        · have : m.only = false := by rw [e]; rfl
          rw [this]; rfl
        · have : m.only = true := by rw [e]; rfl
          rw [this]; rfl
      · unfold enc
        simp [k4]
theorem readM_ext (m n : Msg) (hm : m.wf) (hn : n.wf) (vm : validL m = none) (vn : validL n = none) (x : List Int) (hk : m.kind = n.kind) (h : (rawM n).drop 4 ++ x = (rawM m).drop 4) : x = [] := by
  obtain ⟨hKm, _, okm⟩ := valid_ok m vm
  obtain ⟨hKn, _, okn⟩ := valid_ok n vn
  have e1 := enc_read m hm okm hKm []
  have e2 := enc_read n hn okn hKn x
  rw [← rawM_enc n okn hKn, h, rawM_enc m okm hKm, ← hk] at e2
  rw [List.append_nil, e2] at e1
  have := congrArg (fun p => p.2.2.1) e1
  exact this
/-- Cut off it is none. -/
theorem readM_cut (m : Msg) (hw : m.wf) (hv : validL m = none) (c : Nat) (hc : c < (msgL m).length) : (readM ((msgL m).take c)).2 ≠ none := by
  intro h
  obtain ⟨n, _, wn, vn, h4, _, h0, _, hd⟩ := readM_inv _ (byt_take (msgL_byt m hw hv) c) h
  have hc4 : 4 ≤ c := by rw [List.length_take] at h4; omega
  have e0 : ((msgL m).take c).getD 0 0 = (msgL m).getD 0 0 := by
    rw [List.getD_eq_getElem?_getD, List.getD_eq_getElem?_getD, List.getElem?_take_of_lt (by omega)]
  rw [e0, msgL_0] at h0
  have hx := readM_ext m n hw wn hv vn ((msgL m).drop c) (by omega) (by
    rw [← hd, ← msgL_drop, List.drop_take]
    have : (msgL m).drop c = ((msgL m).drop 4).drop (c - 4) := by rw [List.drop_drop]; congr 1; omega
    rw [this, List.take_append_drop])
  have := congrArg List.length hx
  rw [List.length_drop] at this
  simp at this
  omega
/-- Longer it is none. -/
theorem readM_more (m : Msg) (hw : m.wf) (hv : validL m = none) (x : List Int) (hx : Byt x) (hne : x ≠ []) : (readM (msgL m ++ x)).2 ≠ none := by
  intro h
  obtain ⟨n, _, wn, vn, h4, _, h0, _, hd⟩ := readM_inv _ (byt_append (msgL_byt m hw hv) hx) h
  have h8 := rawM_len m
  have hl2 := msgL_len m
  have e0 : (msgL m ++ x).getD 0 0 = (msgL m).getD 0 0 := by
    rw [List.getD_eq_getElem?_getD, List.getD_eq_getElem?_getD, List.getElem?_append_left (by omega)]
  rw [e0, msgL_0] at h0
  have hz := readM_ext n m wn hw vn hv x (by omega) (by
    rw [← hd, List.drop_append_of_le_length (by omega), msgL_drop])
  exact hne hz
/-- A bit turned: the sum tells. -/
theorem readM_tells (m : Msg) (hw : m.wf) (hv : validL m = none) (j : Nat) (f : Int) (t : Nat) (ht : t < 8) (hj : j < (msgL m).length) (hf : f = (msgL m).getD j 0 + 2 ^ t ∨ f = (msgL m).getD j 0 - 2 ^ t) : (readM ((msgL m).set j f)).2 = some 3 := by
  have h8 := rawM_len m
  have hl2 := msgL_len m
  have := tells (msgL m) j f t ht hj (msgL_zero m hw hv) hf
  unfold readM
  rw [if_neg (by rw [List.length_set]; omega), if_pos this]
theorem msgL_of_read (l : List Int) (m : Msg) (h4 : 4 ≤ l.length) (h0 : l.getD 0 0 = 32 + m.kind) (h1 : l.getD 1 0 = 0) (hd : l.drop 4 = (rawM m).drop 4) :
    (msgL m).length = l.length ∧ ∀ i, i ≠ 2 → i ≠ 3 → (msgL m).getD i 0 = l.getD i 0 := by
  have h8 := rawM_len m
  have hl2 := msgL_len m
  have hlen : (msgL m).length = l.length := by
    have := congrArg List.length hd
    rw [List.length_drop, List.length_drop] at this
    omega
  refine ⟨hlen, fun i h2 h3 => ?_⟩
  by_cases i0 : i = 0
  · subst i0; rw [h0, msgL_0]
  by_cases i1 : i = 1
  · subst i1; rw [h1, msgL_1]
  have e : ∀ (x : List Int), x.getD i 0 = (x.drop 4).getD (i - 4) 0 := by
    intro x
    rw [List.getD_eq_getElem?_getD, List.getD_eq_getElem?_getD, List.getElem?_drop]
    congr 3; omega
  rw [e l, hd, ← msgL_drop, ← e]
end Go.Proofs.YtbgbplbkombfjaaDoor
