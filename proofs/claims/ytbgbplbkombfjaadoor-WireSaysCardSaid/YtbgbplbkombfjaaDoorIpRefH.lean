/- rivuletref1.ReadHeader at any bytes, HopHeader, HeaderBytes at any header. -/
import Derived.Test.YtbgbplbkombfjaaDoorIpRefR
namespace Go.Proofs.YtbgbplbkombfjaaDoor
open Go.RowKit Go.Proofs.YtbgbplbkombfjaaDoorW.PrintWords SumPlain
set_option linter.unusedVariables false
set_option linter.unusedSimpArgs false
attribute [local go_sem] setCell_drewN alloc_drewN
theorem code_end : codeOf (some 1) = 101 := by decide
theorem code_shape : codeOf (some 2) = 102 := by decide
theorem code_range : codeOf (some 0) = 103 := by decide
theorem code_sum : codeOf (some 3) = 105 := by decide
theorem refRead_any (A : Option Addr) (n c : Nat) (l : List Int) (w : World) (hr : Kd.C (Kd.int .u8) w A n l) (hby : Byt l) (hle : n ≤ c) (hn2 : n ≤ 1000000) :
    Calls Tryd.prog 17 #[.slice A n c] w fun e w' => e = .returned (.tuple #[.agg (readL l).1.cells, .int .i64 (codeOf (readL l).2)]) ∧ Below w.heap.size w w' := by
  have hn := hr.1
  unfold readL
  by_cases h1 : l.length < 20
  · simp only [if_pos h1, code_end]
    exact refRead_short A n c w (by omega)
  · simp only [if_neg h1]
    have hr20 := C_take' hr (m := 20) (by omega)
    have hb20 := byt_take hby 20
    generalize l.take 20 = m at *
    unfold read20
    by_cases h2 : ¬ (m.getD 0 0 = 69 ∧ m.getD 1 0 = 0 ∧ m.getD 6 0 = 0 ∧ m.getD 7 0 = 0)
    · simp only [if_pos h2, code_shape]
      exact refRead_shape A n c m w hr20 (by omega) hle hn2 h2
    · simp only [if_neg h2]
      have h2' : good4 m := Decidable.not_not.1 h2
      by_cases h3 : ofL m ≠ 0
      · simp only [if_pos h3, code_sum]
        exact refRead_sum A n c m w hr20 hb20 (by omega) hle hn2 h2' h3
      · simp only [if_neg h3]
        have h3' : ofL m = 0 := Decidable.not_not.1 h3
        by_cases h4 : nuAt m 2 < 20
        · simp only [if_pos h4, code_range]
          exact refRead_range A n c m w hr20 hb20 (by omega) hle hn2 h2' h3' h4
        · simp only [if_neg h4]
          exact refRead_ok A n c m w hr20 hb20 (by omega) hle hn2 h2' h3' h4
theorem refBytes_any (h : Hdr) (w : World) (hw : h.wf) :
    Calls Tryd.prog 14 #[.agg h.cells] w fun e w' => ∃ v, e = .returned (.tuple #[v, .int .i64 (codeOf (bytesL h).2)]) ∧ (Kd.int .u8).R 5 w' w.heap.size (fun _ => True) v (bytesL h).1 ∧ Below w.heap.size w w' := by
  unfold bytesL
  by_cases hk : h.ok
  · simp only [if_pos hk]
    exact refBytes_good h w hk hw
  · simp only [if_neg hk, code_range]
    refine (refBytes_bad h w hk).mono ?_
    rintro e w' ⟨rfl, hb⟩
    exact ⟨_, rfl, Kd.R_nil _ _ _ _ _, hb⟩
set_option maxHeartbeats 1000000 in
set_option maxRecDepth 100000 in
theorem refHop_any (A : Option Addr) (n c : Nat) (l : List Int) (w : World) (hr : Kd.C (Kd.int .u8) w A n l) (hby : Byt l) (hle : n ≤ c) (hn2 : n ≤ 1000000) :
    Calls Tryd.prog 19 #[.slice A n c] w fun e w' => ∃ v, e = .returned (.tuple #[v, .int .i64 (codeOf (hopL l).2)]) ∧ (Kd.int .u8).R 5 w' w.heap.size (fun _ => True) v (hopL l).1 ∧ Below w.heap.size w w' := by
  have hu := Tryd.underlying34
  have hru := refRead_any A n c l w hr hby hle hn2
  have hok := readL_ok hby
  unfold hopL
  generalize (readL l).1 = h at *
  generalize (readL l).2 = x at *
  obtain ⟨len, id, ttl, proto, src, dst⟩ := h
  cases x with
  | some k =>
    clear hok
    simp only
    have hkk : 101 ≤ codeOf (some k) := by simp only [codeOf]; omega
    generalize codeOf (some k) = kk at *
    have hkt : (kk != 0) = true := bne_iff_ne.2 (by omega)
    have HU := Aside0.mk hru
    clear hru hr hby
    go_enter Tryd.func19, Tryd.ntmps19
    go_wp2_with fail
    refine HU.out.mono ?_
    rintro e w1 ⟨rfl, hb1⟩
    simp only [Hdr.cells]
    go_wp2
    go_ret2
    exact ⟨_, rfl, Kd.R_nil _ _ _ _ _, by first | exact hb1 | exact below_alloc hb1 _⟩
  | none =>
    obtain ⟨⟨⟨h0, h0'⟩, ⟨h1, h1'⟩, ⟨h2, h2'⟩, h3, h3'⟩, ⟨h4, h4'⟩, h5, h5'⟩ := hok rfl
    simp only at h0 h0' h1 h1' h2 h2' h3 h3' h4 h4' h5 h5'
    clear hok
    have HU := Aside0.mk hru
    clear hru hr hby
    by_cases ht : ttl = 0
    · subst ht
      simp only [if_true, code_range]
      go_enter Tryd.func19, Tryd.ntmps19
      go_wp2_with fail
      refine HU.out.mono ?_
      rintro e w1 ⟨rfl, hb1⟩
      simp only [codeOf, Hdr.cells]
      go_wp2
      go_ret2
      exact ⟨_, rfl, Kd.R_nil _ _ _ _ _, by first | exact hb1 | exact below_alloc hb1 _⟩
    · simp only [if_neg ht]
      have ht0 : 1 ≤ ttl := by omega
      have htb : (ttl == 0) = false := beq_eq_false_iff_ne.2 ht
      have hg := fun w => refBytes_good ⟨len, id, ttl - 1, proto, src, dst⟩ w ⟨⟨h0, h0'⟩, ⟨h1, h1'⟩, ⟨by show 0 ≤ ttl - 1; omega, by show ttl - 1 ≤ 255; omega⟩, h3, h3'⟩ ⟨⟨h4, h4'⟩, h5, h5'⟩
      have HG := Aside0.mk hg
      clear ht hg
      go_enter Tryd.func19, Tryd.ntmps19
      go_wp2_with fail
      refine HU.out.mono ?_
      rintro e w1 ⟨rfl, hb1⟩
      simp only [codeOf, Hdr.cells]
      go_wp2_with fail
      refine (HG.out _).mono ?_
      rintro e w2 ⟨v, rfl, hR, hb2⟩
      have hbb := below_alloc hb1 (.cells #[.int .i64 len, .int .i64 id, .int .i64 (ttl - 1), .int .i64 proto, .int .u32 src, .int .u32 dst] 34)
      go_wp2
      go_ret2
      exact ⟨_, rfl, Kd.R_lower hR hbb.size, reach_to hbb hbb.size hb2⟩
theorem bytesL_len (h : Hdr) : (bytesL h).1.length ≤ 20 := by
  unfold bytesL
  split
  · rw [hdrL_length]; omega
  · simp
theorem hopL_len (l : List Int) : (hopL l).1.length ≤ 20 := by
  unfold hopL
  split
  · simp
  · split
    · simp
    · rw [hdrL_length]; omega
theorem bytesL_ord (h : Hdr) : ∀ i, (bytesL h).2 = some i → i ∈ ordE := by
  intro i
  unfold bytesL
  split
  · intro h; cases h
  · intro h; cases h; decide
theorem readL_ord (l : List Int) : ∀ i, (readL l).2 = some i → i ∈ ordE := by
  intro i
  unfold readL
  split
  · intro h; cases h; decide
  · unfold read20
    repeat' split
    all_goals intro h
    all_goals first | (cases h; done) | (cases h; decide)
theorem hopL_ord (l : List Int) : ∀ i, (hopL l).2 = some i → i ∈ ordE := by
  intro i
  unfold hopL
  split
  · rename_i k hk
    intro h
    cases h
    exact readL_ord l _ hk
  · split
    · intro h; cases h; decide
    · intro h; cases h
end Go.Proofs.YtbgbplbkombfjaaDoor
