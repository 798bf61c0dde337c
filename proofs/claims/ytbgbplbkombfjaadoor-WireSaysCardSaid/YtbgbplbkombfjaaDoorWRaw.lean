/- A message's bytes: plain facts. -/
import Derived.Test.YtbgbplbkombfjaaDoorWPut
namespace Go.Proofs.YtbgbplbkombfjaaDoor
open Go.RowKit Go.Proofs.YtbgbplbkombfjaaDoorW.PrintWords SumPlain
set_option linter.unusedVariables false
set_option linter.unusedSimpArgs false
set_option maxHeartbeats 1000000 in
set_option maxRecDepth 100000 in
theorem of_1 (w : World) : Calls Tryd.prog 48 #[.int .i64 1] w fun e w' => e = .returned (.agg #[.bool false, .bool false, .bool false, .bool true, .bool false, .bool false]) ∧ w' = w.alloc (.cells #[.bool false, .bool false, .bool false, .bool true, .bool false, .bool false] 86) := by
  have hu := Tryd.underlying86
  go_enter Tryd.func48, Tryd.ntmps48
  go_wp2
  go_returns
  exact ⟨rfl, rfl⟩
set_option maxHeartbeats 1000000 in
set_option maxRecDepth 100000 in
theorem of_2 (w : World) : Calls Tryd.prog 48 #[.int .i64 2] w fun e w' => e = .returned (.agg #[.bool true, .bool true, .bool true, .bool false, .bool false, .bool false]) ∧ w' = w.alloc (.cells #[.bool true, .bool true, .bool true, .bool false, .bool false, .bool false] 86) := by
  have hu := Tryd.underlying86
  go_enter Tryd.func48, Tryd.ntmps48
  go_wp2
  go_returns
  exact ⟨rfl, rfl⟩
set_option maxHeartbeats 1000000 in
set_option maxRecDepth 100000 in
theorem of_3 (w : World) : Calls Tryd.prog 48 #[.int .i64 3] w fun e w' => e = .returned (.agg #[.bool false, .bool true, .bool true, .bool false, .bool true, .bool false]) ∧ w' = w.alloc (.cells #[.bool false, .bool true, .bool true, .bool false, .bool true, .bool false] 86) := by
  have hu := Tryd.underlying86
  go_enter Tryd.func48, Tryd.ntmps48
  go_wp2
  go_returns
  exact ⟨rfl, rfl⟩
set_option maxHeartbeats 1000000 in
set_option maxRecDepth 100000 in
theorem of_4 (w : World) : Calls Tryd.prog 48 #[.int .i64 4] w fun e w' => e = .returned (.agg #[.bool false, .bool false, .bool true, .bool false, .bool false, .bool true]) ∧ w' = w.alloc (.cells #[.bool false, .bool false, .bool true, .bool false, .bool false, .bool true] 86) := by
  have hu := Tryd.underlying86
  go_enter Tryd.func48, Tryd.ntmps48
  go_wp2
  go_returns
  exact ⟨rfl, rfl⟩
set_option maxHeartbeats 1000000 in
set_option maxRecDepth 100000 in
theorem of_5 (w : World) : Calls Tryd.prog 48 #[.int .i64 5] w fun e w' => e = .returned (.agg #[.bool false, .bool false, .bool true, .bool false, .bool false, .bool false]) ∧ w' = w.alloc (.cells #[.bool false, .bool false, .bool true, .bool false, .bool false, .bool false] 86) := by
  have hu := Tryd.underlying86
  go_enter Tryd.func48, Tryd.ntmps48
  go_wp2
  go_returns
  exact ⟨rfl, rfl⟩
theorem below_alloc' {B : Nat} {a w : World} (h : Below B a w) (hs : B ≤ w.heap.size) (o : Obj) : Below B a (w.alloc o) ∧ B ≤ (w.alloc o).heap.size :=
  ⟨h.alloc hs o, by simp; omega⟩
theorem adsB_byt (l : List Int) (h : ∀ a ∈ l, isAd a) : Byt (adsB l) := by
  intro x hx
  simp only [adsB, List.mem_flatMap] at hx
  obtain ⟨a, ha, hx⟩ := hx
  exact adB_byt a (h a ha).1 (h a ha).2 x hx
theorem adsB_len (l : List Int) : (adsB l).length = 4 * l.length := by
  induction l with
  | nil => rfl
  | cons a r ih => simp [adsB, adB] at ih ⊢; omega
theorem nuB_byt (n : Int) (h0 : 0 ≤ n) (h1 : n ≤ 65535) : Byt (nuB n) := by
  intro x hx
  simp [nuB] at hx
  omega
theorem num_sum (m : Msg) (h : m.ok) : 0 ≤ m.rank + m.cost ∧ m.rank + m.cost ≤ 65535 := by
  obtain ⟨⟨a0, a1⟩, ⟨b0, b1⟩, _, _, _, _, h1, h2, _⟩ := h
  by_cases e : m.kind = 1
  · have := h2 (by omega); omega
  · have := h1 e; omega
theorem rawM_byt (m : Msg) (hw : m.wf) (hk : m.ok) (h1 : 1 ≤ m.kind) (h5 : m.kind ≤ 5) (hl : m.l.length ≤ 4) : Byt (rawM m) := by
  have hn := num_sum m hk
  obtain ⟨w0, w1, w2, w3, w4⟩ := hw
  unfold rawM
  refine byt_append (byt_append (byt_append (byt_append (byt_append (byt_append ?_ ?_) ?_) ?_) ?_) ?_) ?_
  · intro x hx; simp at hx; omega
  · exact adB_byt _ w0.1 w0.2
  · split
    · exact adB_byt _ w1.1 w1.2
    · intro x hx; simp at hx
  · split
    · exact adB_byt _ w2.1 w2.2
    · intro x hx; simp at hx
  · split
    · intro x hx; simp at hx
    · exact adB_byt _ w3.1 w3.2
  · split
    · exact nuB_byt _ hn.1 hn.2
    · intro x hx; simp at hx
  · split
    · refine byt_append ?_ (adsB_byt _ w4)
      intro x hx
      simp at hx
      rcases hx with rfl | rfl
      · split <;> omega
      · omega
    · intro x hx; simp at hx
end Go.Proofs.YtbgbplbkombfjaaDoor
