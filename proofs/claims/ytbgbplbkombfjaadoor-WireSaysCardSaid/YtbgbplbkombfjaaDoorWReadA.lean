/- wire.Read: any bytes. -/
import Derived.Test.YtbgbplbkombfjaaDoorWReadM
namespace Go.Proofs.YtbgbplbkombfjaaDoor
open Go.RowKit Go.Proofs.YtbgbplbkombfjaaDoorW.PrintWords SumPlain
set_option linter.unusedVariables false
set_option linter.unusedSimpArgs false
theorem read_zero (E : Nat → Addr) (k : Nat) (args : Array Value) (w : World) (h : Calls Tryd.prog 34 args w fun e w' => e = .returned (.tuple #[.agg #[.int .i64 0, .int .u32 0, .int .u32 0, .int .u32 0, .int .u32 0, .int .i64 0, .int .i64 0, .bool false, .slice none 0 0], errV E (some k)]) ∧ Below w.heap.size w w') :
    Calls Tryd.prog 34 args w fun e w' => ∃ A1 n1 c1, e = .returned (.tuple #[.agg ((zMsg, some k).1.cells (.slice A1 n1 c1)), errV E (zMsg, some k).2]) ∧ Kd.C (Kd.int .u32) w' A1 n1 (zMsg, some k).1.l ∧ Below w.heap.size w w' := by
  refine h.mono ?_
  rintro e w' ⟨rfl, hb⟩
  exact ⟨none, 0, 0, rfl, nil_C _, hb⟩
theorem read_any (E : Nat → Addr) (A : Option Addr) (n c : Nat) (l : List Int) (w : World) (hE : Errs readErrs E w) (hr : Kd.C (Kd.int .u8) w A n l) (hby : Byt l) (hle : n ≤ c) (hl : l.length ≤ 1000000) :
    Calls Tryd.prog 34 #[.slice A n c] w fun e w' => ∃ A1 n1 c1, e = .returned (.tuple #[.agg ((readM l).1.cells (.slice A1 n1 c1)), errV E (readM l).2]) ∧ Kd.C (Kd.int .u32) w' A1 n1 (readM l).1.l ∧ Below w.heap.size w w' := by
  have hn : l.length = n := hr.1
  unfold readM
  by_cases d1 : l.length < 4
  · rw [if_pos d1]
    exact read_zero E _ _ w (read_short E A n c w hE (by omega))
  rw [if_neg d1]
  by_cases d2 : ofL l ≠ 0
  · rw [if_pos d2]
    exact read_zero E _ _ w (read_sum E A n c l w hE hr hby hl (by omega) d2)
  rw [if_neg d2]
  have d2' : ofL l = 0 := Classical.not_not.1 d2
  by_cases d3 : l.getD 1 0 ≠ 0
  · rw [if_pos d3]
    exact read_zero E _ _ w (read_shape E A n c l w hE hr hby hl (by omega) d2' d3)
  rw [if_neg d3]
  have d3' : l.getD 1 0 = 0 := Classical.not_not.1 d3
  by_cases d4 : ¬ (1 ≤ l.getD 0 0 - 32 ∧ l.getD 0 0 - 32 ≤ 5)
  · rw [if_pos d4]
    exact read_zero E _ _ w (read_kind E A n c l w hE hr hby hl (by omega) d2' d3' d4)
  rw [if_neg d4]
  have hK := Classical.not_not.1 d4
  obtain ⟨K, hKK⟩ : ∃ K, K = l.getD 0 0 - 32 := ⟨_, rfl⟩
  rw [← hKK] at hK ⊢
  have h0 : l.getD 0 0 = K + 32 := by omega
  have ho := msgR_only K (l.drop 4, false) (byt_drop hby 4)
  generalize hM : msgR K (l.drop 4, false) = r at *
  obtain ⟨m, o, rest, bad⟩ := r
  simp only at *
  cases bad with
  | true =>
    rw [if_pos rfl]
    exact read_zero E _ _ w (readm_end E A n c l w K m o rest hE hr hby hle hl (by omega) d2' d3' h0 hK hM)
  | false =>
    rw [if_neg (by simp)]
    by_cases e1 : 0 < rest.length
    · rw [if_pos (Or.inl e1)]
      exact read_zero E _ _ w (readm_long E A n c l w K m o rest e1 hE hr hby hle hl (by omega) d2' d3' h0 hK hM)
    · by_cases e2 : 1 < o
      · rw [if_pos (Or.inr e2)]
        exact read_zero E _ _ w (readm_only E A n c l w K m o rest (by omega) e2 hE hr hby hle hl (by omega) d2' d3' h0 hK hM)
      · rw [if_neg (fun h => h.elim e1 e2)]
        cases hv : validL m with
        | some k => exact read_zero E _ _ w (readm_bad E A n c l w K m o rest k hv (by omega) (by omega) hE hr hby hle hl (by omega) d2' d3' h0 hK hM)
        | none => exact readm_good E A n c l w K m o rest hv (by omega) (by omega) hE hr hby hle hl (by omega) d2' d3' h0 hK hM
theorem readM_err (l : List Int) (k : Nat) (h : (readM l).2 = some k) : readM l = (zMsg, some k) := by
  have key : readM l = (zMsg, (readM l).2) ∨ (readM l).2 = none := by
    unfold readM
    repeat' split
    all_goals simp
  rcases key with e | e
  · rw [e, h]
  · rw [e] at h; cases h
end Go.Proofs.YtbgbplbkombfjaaDoor
