/- slices.Clone at []byte, sum.Put, sum.Check. -/
import Derived.Test.YtbgbplbkombfjaaDoorSumOf
import Derived.Test.YtbgbplbkombfjaaDoorBytesRef
import Derived.WalkSpells
import Derived.BigRegion
namespace Go.Proofs.YtbgbplbkombfjaaDoor
open Go.RowKit Go.Proofs.YtbgbplbkombfjaaDoorW.PrintWords SumPlain
set_option linter.unusedVariables false
set_option linter.unusedSimpArgs false
set_option maxHeartbeats 400000 in
theorem clone_any (A : Option Addr) (n c : Nat) (l : List Int) (w : World) (hr : Kd.C (Kd.int .u8) w A n l) (hl : l.length ≤ 1000000) :
    Calls Tryd.prog 60 #[.slice A n c] w fun e w' => ∃ v, e = .returned v ∧ (Kd.int .u8).R 5 w' w.heap.size (fun _ => True) v l ∧ Below w.heap.size w w' := by
  obtain rfl := hr.1
  have he := fun (w : World) (a : Option Addr) (n : Nat) => Lib.run_eql_slice_nil (P := Tryd.prog) w 26 5 a n c 0 0 Tryd.underlying26
  cases A with
  | none =>
    have h0 : l = [] := by
      cases l with
      | nil => rfl
      | cons x r => obtain ⟨ad, e, _⟩ := hr.2.2 (by simp); cases e
    subst h0
    go_enter Tryd.func60, Tryd.ntmps60
    go_wp2
    go_ret
    exact ⟨_, rfl, Kd.R_nil _ _ _ _ _, Below.refl _ _⟩
  | some ad =>
    have hown := made0_R (Kd.int .u8) 5 w w.heap.size (.int .u8 0) 0 (fun _ => True) (Nat.le_refl _) (by omega) trivial
    rw [show madeCells (Value.int .u8 0).cells (0 * (Kd.int .u8).sz) = #[] from by simp [madeCells]] at hown
    have hbel : Below w.heap.size w (w.alloc (.cells #[] 5)) := (Below.refl _ _).alloc (Nat.le_refl _) _
    have hr1 := Kd.C_below hr hbel
    have HO := Aside0.mk hown
    have HB := Aside0.mk hbel
    have HR := Aside0.mk hr1
    clear hown hbel hr1
    go_enter Tryd.func60, Tryd.ntmps60
    go_wp2_with (at_builtin; refine Kd.R_append_row (w0 := w) (Value.int .u8) 0 w.heap.size rfl (.tmp 5) (.tmp 6) 26 5 (.int .u8 0) 1 rfl Tryd.underlying26 Tryd.infoB rfl (by decide) _ [] l (some ad) l.length c (fun _ => True) rfl rfl (fun _ _ => trivial) HO.out HR.out HB.out ?c5 ?c6 ?_)
    case c5 => simp
    case c6 => simp; omega
    intro v1 w1 hown1 hbel1 _ _
    go_wp2
    go_ret
    exact ⟨_, rfl, by exact hown1, hbel1⟩
set_option maxHeartbeats 400000 in
theorem put_bad (A : Option Addr) (n c : Nat) (l : List Int) (at_ : Int) (w : World) (hr : Kd.C (Kd.int .u8) w A n l) (hl : l.length ≤ 1000000) (h : at_ < 0 ∨ at_ % 2 ≠ 0 ∨ at_ > (l.length : Int) - 2) :
    Calls Tryd.prog 38 #[.slice A n c, .int .i64 at_] w fun e w' => ∃ v, e = .returned v ∧ (Kd.int .u8).R 5 w' w.heap.size (fun _ => True) v l ∧ Below w.heap.size w w' := by
  obtain rfl := hr.1
  by_cases h0 : at_ < 0
  · clear h
    go_enter Tryd.func38, Tryd.ntmps38
    go_wp2_with (go_at_call 60; refine (clone_any A _ c l w hr hl).mono ?_; rintro e w1 ⟨v, rfl, hown, hbel⟩)
    go_ret
    exact ⟨_, rfl, hown, hbel⟩
  · have h0' : 0 ≤ at_ := by omega
    by_cases h1 : at_ % 2 = 0
    · have h2 : (l.length : Int) - 2 < at_ := by omega
      clear h h0
      go_enter Tryd.func38, Tryd.ntmps38
      go_wp2_with (go_at_call 60; refine (clone_any A _ c l w hr hl).mono ?_; rintro e w1 ⟨v, rfl, hown, hbel⟩)
      go_ret
      exact ⟨_, rfl, hown, hbel⟩
    · clear h h0
      go_enter Tryd.func38, Tryd.ntmps38
      go_wp2_with (go_at_call 60; refine (clone_any A _ c l w hr hl).mono ?_; rintro e w1 ⟨v, rfl, hown, hbel⟩)
      go_ret
      exact ⟨_, rfl, hown, hbel⟩
set_option maxHeartbeats 400000 in
theorem put_good (A : Option Addr) (n c : Nat) (l : List Int) (a : Nat) (w : World) (hr : Kd.C (Kd.int .u8) w A n l) (hb : Byt l) (hl : l.length ≤ 1000000) (h : a % 2 = 0) (ha : a + 2 ≤ l.length) :
    Calls Tryd.prog 38 #[.slice A n c, .int .i64 a] w fun e w' => ∃ v, e = .returned v ∧ (Kd.int .u8).R 5 w' w.heap.size (fun _ => True) v (putL l a) ∧ Below w.heap.size w w' := by
  obtain rfl := hr.1
  go_enter Tryd.func38, Tryd.ntmps38
  go_wp2_with (go_at_call 60; refine (clone_any A _ c l w hr hl).mono ?_; rintro e w1 ⟨v, rfl, hown, hbel⟩; obtain ⟨g, cap, rfl, hg⟩ := R_form hown (by omega); obtain ⟨q0, f0⟩ := R_nat hown rfl a (by omega); obtain ⟨q1, f1⟩ := R_nat hown rfl (a + 1) (by omega))
  have hw2 := R_putn (R_putn hown rfl a 0) (by simp) (a + 1) 0
  have hof := of_any (some ⟨g, 0, none⟩) l.length cap (zeroL l a) _ (R_C hw2).2 (zeroL_byt hb a) (by rw [zeroL_length]; exact hl)
  refine hof.mono ?_
  clear hof
  rintro e w2 ⟨rfl, rfl⟩
  go_wp2
  go_ret
  refine ⟨_, rfl, ?_, (((hbel.setCell hg _).setCell hg _).setCell hg _).setCell hg _⟩
  rw [putL_good l a h ha]
  exact R_putn (R_putn hw2 (by simp) a _) (by simp) (a + 1) _
theorem put_any (A : Option Addr) (n c : Nat) (l : List Int) (at_ : Int) (w : World) (hr : Kd.C (Kd.int .u8) w A n l) (hb : Byt l) (hl : l.length ≤ 1000000) :
    Calls Tryd.prog 38 #[.slice A n c, .int .i64 at_] w fun e w' => ∃ v, e = .returned v ∧ (Kd.int .u8).R 5 w' w.heap.size (fun _ => True) v (putL l at_) ∧ Below w.heap.size w w' := by
  by_cases h : at_ < 0 ∨ at_ % 2 ≠ 0 ∨ at_ > (l.length : Int) - 2
  · rw [putL_bad l at_ h]
    exact put_bad A n c l at_ w hr hl h
  · obtain ⟨a, rfl⟩ := Int.eq_ofNat_of_zero_le (show 0 ≤ at_ by omega)
    exact put_good A n c l a w hr hb hl (by omega) (by omega)
set_option maxHeartbeats 400000 in
theorem check_any (A : Option Addr) (n c : Nat) (l : List Int) (w : World) (hr : Kd.C (Kd.int .u8) w A n l) (hb : Byt l) (hl : l.length ≤ 1000000) :
    Calls Tryd.prog 42 #[.slice A n c] w fun e w' => e = .returned (.bool (decide (ofL l = 0))) ∧ w = w' := by
  go_enter Tryd.func42, Tryd.ntmps42
  go_wp2_with (go_at_call 61; refine (of_any A n c l w hr hb hl).mono ?_; rintro e w1 ⟨rfl, rfl⟩)
  go_ret
  exact ⟨ret_bool (by rw [Bool.eq_iff_iff]; simp), rfl⟩
end Go.Proofs.YtbgbplbkombfjaaDoor
