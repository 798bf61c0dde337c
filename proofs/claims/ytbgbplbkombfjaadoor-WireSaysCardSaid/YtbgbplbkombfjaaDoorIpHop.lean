/- ip.Hop; the chapter's example. -/
import Derived.Test.YtbgbplbkombfjaaDoorIpRead
namespace Go.Proofs.YtbgbplbkombfjaaDoor
open Go.RowKit Go.Proofs.YtbgbplbkombfjaaDoorW.PrintWords SumPlain
set_option linter.unusedVariables false
set_option linter.unusedSimpArgs false
attribute [local go_sem] setCell_drewN alloc_drewN
theorem nuAt_bd {l : List Int} (h : Byt l) (i : Nat) : 0 ≤ nuAt l i ∧ nuAt l i ≤ 65535 := by
  have h1 := byt_getD h i
  have h2 := byt_getD h (i + 1)
  unfold nuAt
  omega
theorem adOf_bd {b0 b1 b2 b3 : Int} (h0 : 0 ≤ b0 ∧ b0 ≤ 255) (h1 : 0 ≤ b1 ∧ b1 ≤ 255) (h2 : 0 ≤ b2 ∧ b2 ≤ 255) (h3 : 0 ≤ b3 ∧ b3 ≤ 255) : 0 ≤ adOf b0 b1 b2 b3 ∧ adOf b0 b1 b2 b3 < 4294967296 := by
  unfold adOf
  omega
theorem adAt_bd {l : List Int} (h : Byt l) (i : Nat) : 0 ≤ adAt l i ∧ adAt l i < 4294967296 := adOf_bd (byt_getD h _) (byt_getD h _) (byt_getD h _) (byt_getD h _)
theorem readL_ok {l : List Int} (hb : Byt l) (h : (readL l).2 = none) : (readL l).1.ok ∧ (readL l).1.wf := by
  unfold readL at h ⊢
  split at h
  · cases h
  · rename_i h1
    rw [if_neg h1]
    have hb20 := byt_take hb 20
    generalize l.take 20 = m at *
    unfold read20 at h ⊢
    split at h
    · cases h
    · rename_i h2
      rw [if_neg h2]
      split at h
      · cases h
      · rename_i h3
        rw [if_neg h3]
        split at h
        · cases h
        · rename_i h4
          rw [if_neg h4]
          have h5 := nuAt_bd hb20 2
          exact ⟨⟨⟨by show 20 ≤ nuAt m 2; omega, h5.2⟩, nuAt_bd hb20 4, byt_getD hb20 8, byt_getD hb20 9⟩, adAt_bd hb20 12, adAt_bd hb20 16⟩
def hopL (l : List Int) : List Int × Option Nat :=
  match (readL l).2 with
  | some k => ([], some k)
  | none => if (readL l).1.ttl = 0 then ([], some 0) else (hdrL { (readL l).1 with ttl := (readL l).1.ttl - 1 }, none)
set_option maxHeartbeats 1000000 in
set_option maxRecDepth 100000 in
theorem ipHop_any (E : Nat → Addr) (A : Option Addr) (n c : Nat) (l : List Int) (w : World) (hE : Errs ipErrs E w) (hr : Kd.C (Kd.int .u8) w A n l) (hby : Byt l) (hle : n ≤ c) (hn2 : n ≤ 1000000) :
    Calls Tryd.prog 18 #[.slice A n c] w fun e w' => ∃ v, e = .returned (.tuple #[v, errV E (hopL l).2]) ∧ (Kd.int .u8).R 5 w' w.heap.size (fun _ => True) v (hopL l).1 ∧ Below w.heap.size w w' := by
  have hu := Tryd.underlying25
  have hru := ipRead_any E A n c l w hE hr hby hle hn2
  have hok := readL_ok hby
  unfold hopL
  generalize (readL l).1 = h at *
  generalize (readL l).2 = x at *
  obtain ⟨len, id, ttl, proto, src, dst⟩ := h
  have HE := Aside0.mk hE
  have HU := Aside0.mk hru
  clear hE hru hr hby
  cases x with
  | some k =>
    clear hok
    go_enter Tryd.func18, Tryd.ntmps18
    go_wp2_with fail
    refine HU.out.mono ?_
    rintro e w1 ⟨rfl, hb1⟩
    simp only [errV, Hdr.cells]
    go_wp2
    go_ret2
    exact ⟨_, rfl, Kd.R_nil _ _ _ _ _, by first | exact hb1 | exact below_alloc hb1 _⟩
  | none =>
    obtain ⟨⟨⟨h0, h0'⟩, ⟨h1, h1'⟩, ⟨h2, h2'⟩, h3, h3'⟩, ⟨h4, h4'⟩, h5, h5'⟩ := hok rfl
    simp only at h0 h0' h1 h1' h2 h2' h3 h3' h4 h4' h5 h5'
    clear hok
    by_cases ht : ttl = 0
    · subst ht
      simp only [if_true]
      go_enter Tryd.func18, Tryd.ntmps18
      go_wp2_with fail
      refine HU.out.mono ?_
      rintro e w1 ⟨rfl, hb1⟩
      simp only [errV, Hdr.cells]
      have hc := pw_cell_below (below_alloc hb1 (.cells #[.int .i64 len, .int .i64 id, .int .i64 0, .int .i64 proto, .int .u32 src, .int .u32 dst] 25)) (HE.out.cell 0 (by simp [ipErrs]))
      have hs1 := hb1.size
      go_wp2
      go_quiet (fail)
      go_wp2
      go_ret2
      exact ⟨_, rfl, Kd.R_nil _ _ _ _ _, pw_below_drewN (below_alloc hb1 _) _⟩
    · rw [if_neg ht]
      have ht0 : 1 ≤ ttl := by omega
      have htb : (ttl == 0) = false := beq_eq_false_iff_ne.2 ht
      have hg := fun w => ipBytes_good ⟨len, id, ttl - 1, proto, src, dst⟩ w ⟨⟨h0, h0'⟩, ⟨h1, h1'⟩, ⟨by show 0 ≤ ttl - 1; omega, by show ttl - 1 ≤ 255; omega⟩, h3, h3'⟩ ⟨⟨h4, h4'⟩, h5, h5'⟩
      have HG := Aside0.mk hg
      clear ht hg
      go_enter Tryd.func18, Tryd.ntmps18
      go_wp2_with fail
      refine HU.out.mono ?_
      rintro e w1 ⟨rfl, hb1⟩
      simp only [errV, Hdr.cells]
      go_wp2_with fail
      refine (HG.out _).mono ?_
      rintro e w2 ⟨v, rfl, hR, hb2⟩
      have hbb := below_alloc hb1 (.cells #[.int .i64 len, .int .i64 id, .int .i64 (ttl - 1), .int .i64 proto, .int .u32 src, .int .u32 dst] 25)
      go_wp2
      go_ret2
      exact ⟨_, rfl, Kd.R_lower hR hbb.size, reach_to hbb hbb.size hb2⟩
end Go.Proofs.YtbgbplbkombfjaaDoor
