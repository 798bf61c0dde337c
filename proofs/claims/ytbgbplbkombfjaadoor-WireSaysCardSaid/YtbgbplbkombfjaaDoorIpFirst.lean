/- rivuletlaw3.other, same, first. -/
import Derived.Test.YtbgbplbkombfjaaDoorIpPlain
import Derived.Test.YtbgbplbkombfjaaDoorSmall
namespace Go.Proofs.YtbgbplbkombfjaaDoor
open Go.RowKit Go.Proofs.YtbgbplbkombfjaaDoorW.PrintWords SumPlain
set_option linter.unusedVariables false
set_option linter.unusedSimpArgs false
attribute [local go_sem] setCell_drewN alloc_drewN
set_option maxHeartbeats 1000000 in
set_option maxRecDepth 100000 in
theorem other3_any (h : Hdr) (w : World) : Calls Tryd.prog 15 #[.agg h.cells] w fun e w' => e = .returned (.agg h.cells) ∧ Below w.heap.size w w' := by
  have hu := Tryd.underlying25
  have hu2 := Tryd.underlying34
  obtain ⟨len, id, ttl, proto, src, dst⟩ := h
  simp only [Hdr.cells]
  go_enter Tryd.func15, Tryd.ntmps15
  go_wp2
  all_goals go_returns
  all_goals exact ⟨rfl, by go_grown⟩
set_option maxHeartbeats 1000000 in
set_option maxRecDepth 100000 in
theorem same3_yes (h : Hdr) (w : World) : Calls Tryd.prog 22 #[.agg h.cells, .agg h.cells] w fun e w' => e = .returned (.bool true) ∧ Below w.heap.size w w' := by
  obtain ⟨len, id, ttl, proto, src, dst⟩ := h
  simp only [Hdr.cells]
  go_enter Tryd.func22, Tryd.ntmps22
  go_wp2
  all_goals go_ret
  all_goals exact ⟨rfl, by go_grown⟩
set_option maxHeartbeats 1000000 in
set_option maxRecDepth 100000 in
theorem same3_no (h g : Hdr) (w : World) (hn : h ≠ g) : Calls Tryd.prog 22 #[.agg h.cells, .agg g.cells] w fun e w' => e = .returned (.bool false) ∧ Below w.heap.size w w' := by
  obtain ⟨x0, x1, x2, x3, x4, x5⟩ := h
  obtain ⟨y0, y1, y2, y3, y4, y5⟩ := g
  simp only [Hdr.cells]
  by_cases h0 : x0 = y0
  · subst h0
    by_cases h1 : x1 = y1
    · subst h1
      by_cases h2 : x2 = y2
      · subst h2
        by_cases h3 : x3 = y3
        · subst h3
          by_cases h4 : x4 = y4
          · subst h4
            by_cases h5 : x5 = y5
            · subst h5
              exact absurd rfl hn
            · have b5 : (x5 == y5) = false := beq_eq_false_iff_ne.2 h5
              clear hn h5
              go_enter Tryd.func22, Tryd.ntmps22
              go_wp2
              all_goals go_ret
              all_goals exact ⟨rfl, by go_grown⟩
          · have b4 : (x4 == y4) = false := beq_eq_false_iff_ne.2 h4
            clear hn h4
            go_enter Tryd.func22, Tryd.ntmps22
            go_wp2
            all_goals go_ret
            all_goals exact ⟨rfl, by go_grown⟩
        · have b3 : (x3 == y3) = false := beq_eq_false_iff_ne.2 h3
          clear hn h3
          go_enter Tryd.func22, Tryd.ntmps22
          go_wp2
          all_goals go_ret
          all_goals exact ⟨rfl, by go_grown⟩
      · have b2 : (x2 == y2) = false := beq_eq_false_iff_ne.2 h2
        clear hn h2
        go_enter Tryd.func22, Tryd.ntmps22
        go_wp2
        all_goals go_ret
        all_goals exact ⟨rfl, by go_grown⟩
    · have b1 : (x1 == y1) = false := beq_eq_false_iff_ne.2 h1
      clear hn h1
      go_enter Tryd.func22, Tryd.ntmps22
      go_wp2
      all_goals go_ret
      all_goals exact ⟨rfl, by go_grown⟩
  · have b0 : (x0 == y0) = false := beq_eq_false_iff_ne.2 h0
    clear hn h0
    go_enter Tryd.func22, Tryd.ntmps22
    go_wp2
    all_goals go_ret
    all_goals exact ⟨rfl, by go_grown⟩
theorem same3_any (h g : Hdr) (w : World) : Calls Tryd.prog 22 #[.agg h.cells, .agg g.cells] w fun e w' => e = .returned (.bool (decide (h = g))) ∧ Below w.heap.size w w' := by
  by_cases e : h = g
  · subst e
    rw [decide_eq_true rfl]
    exact same3_yes h w
  · rw [decide_eq_false e]
    exact same3_no h g w e
set_option maxHeartbeats 1000000 in
set_option maxRecDepth 100000 in
theorem first3_any (E : Nat → Addr) (w : World) (hE : Errs ipErrs E w) : Calls Tryd.prog 12 #[] w fun e w' => e = .returned (.bool true) ∧ Below w.heap.size w w' := by
  have hu := Tryd.underlying25
  have ok1 : (⟨20, 0, 1, 0, 0, 0⟩ : Hdr).ok := by decide
  have wf1 : (⟨20, 0, 1, 0, 0, 0⟩ : Hdr).wf := by refine ⟨⟨?_, ?_⟩, ?_, ?_⟩ <;> decide
  have ok0 : (⟨20, 0, 0, 0, 0, 0⟩ : Hdr).ok := by decide
  have wf0 : (⟨20, 0, 0, 0, 0, 0⟩ : Hdr).wf := by refine ⟨⟨?_, ?_⟩, ?_, ?_⟩ <;> decide
  have h1 := hopL_hdrL _ ok1 wf1 []
  rw [List.append_nil] at h1
  have h0 := readL_hdrL' _ ok0 wf0
  have hg := ipBytes_good _ w ok1 wf1
  have H := Aside0.mk (And.intro hE (And.intro h1 (And.intro h0 (And.intro hg (And.intro (hdrL_byt _ ok1 wf1) (hdrL_byt _ ok0 wf0))))))
  clear hE h1 h0 hg ok1 wf1 ok0 wf0
  go_enter Tryd.func12, Tryd.ntmps12
  go_wp2_with fail
  refine H.out.2.2.2.1.mono ?_
  rintro e w1 ⟨v, rfl, hR, hb1⟩
  obtain ⟨A, c, rfl, hle, hC⟩ := Kd.R_reads hR
  have HC := Aside0.mk hC
  have HB := Aside0.mk hb1
  have hlen : (hdrL ⟨20, 0, 1, 0, 0, 0⟩).length ≤ 1000000 := by rw [hdrL_length]; omega
  clear hR hC hb1
  go_wp2_with fail
  refine (ipHop_any E A _ c _ _ (H.out.1.below HB.out) HC.out H.out.2.2.2.2.1 hle hlen).mono ?_
  rintro e w2 ⟨v, rfl, hR, hb2⟩
  rw [H.out.2.1] at hR ⊢
  simp only [errV] at hR ⊢
  rw [if_neg (by decide)] at hR ⊢
  simp only at hR ⊢
  obtain ⟨A2, c2, rfl, hle2, hC⟩ := Kd.R_reads hR
  have HC2 := Aside0.mk hC
  have HB2 := Aside0.mk (reach_to HB.out HB.out.size hb2)
  have hlen2 : (hdrL ⟨20, 0, 0, 0, 0, 0⟩).length ≤ 1000000 := by rw [hdrL_length]; omega
  clear hR hC hb2
  go_wp2_with fail
  refine (ipRead_any E A2 _ c2 (hdrL ⟨20, 0, 0, 0, 0, 0⟩) _ (H.out.1.below HB2.out) HC2.out H.out.2.2.2.2.2 hle2 hlen2).mono ?_
  rintro e w3 ⟨rfl, hb3⟩
  rw [H.out.2.2.1]
  simp only [errV, Hdr.cells]
  go_wp2
  go_ret
  exact ⟨rfl, below_alloc (reach_to HB2.out HB2.out.size hb3) _⟩
def bytesL (h : Hdr) : List Int × Option Nat := if h.ok then (hdrL h, none) else ([], some 0)
theorem ipBytes_any (E : Nat → Addr) (h : Hdr) (w : World) (hE : Errs ipErrs E w) (hw : h.wf) :
    Calls Tryd.prog 13 #[.agg h.cells] w fun e w' => ∃ v, e = .returned (.tuple #[v, errV E (bytesL h).2]) ∧ (Kd.int .u8).R 5 w' w.heap.size (fun _ => True) v (bytesL h).1 ∧ Below w.heap.size w w' := by
  unfold bytesL
  by_cases hk : h.ok
  · simp only [if_pos hk]
    exact ipBytes_good h w hk hw
  · simp only [if_neg hk]
    refine (ipBytes_bad E h w (hE.cell 0 (by simp [ipErrs])) hk).mono ?_
    rintro e w' ⟨rfl, hb⟩
    exact ⟨_, rfl, Kd.R_nil _ _ _ _ _, hb⟩
end Go.Proofs.YtbgbplbkombfjaaDoor
