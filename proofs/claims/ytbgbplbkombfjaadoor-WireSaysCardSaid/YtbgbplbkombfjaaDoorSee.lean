/- rivuletsee: package api's errors as plain numbers. -/
import Derived.Test.YtbgbplbkombfjaaDoorErrs
import Derived.Handy
import Derived.WalkSpells
import Derived.Deep.RegionHeld3
namespace Go.Proofs.YtbgbplbkombfjaaDoor
open Go.RowKit Go.Proofs.YtbgbplbkombfjaaDoorW.PrintWords SumPlain
set_option linter.unusedVariables false
set_option linter.unusedSimpArgs false
/-- The errors' variables, in the order in which they are asked. -/
def ordE : List Nat := [1, 2, 0, 5, 3, 6, 7, 8, 9, 10, 11, 12, 4, 13]
def ordAt (p : Nat) : Nat := ordE.getD p 0
def codeOf : Option Nat → Int
  | none => 0
  | some i => 101 + (ordE.idxOf i : Int)
theorem reach_to' {B : Nat} {a w w' : World} (h : Below B a w) (hB : B ≤ w.heap.size) (k : Below w.heap.size w w') : Below B a w' := below_then h hB k
theorem blk_put3 {w : World} {g t : Nat} {x0 x1 x2 a0 a1 a2 : Value} (h : w.heap[g]? = some (.cells #[x0, x1, x2] t (0, 0))) :
    (((w.setCell ⟨g, 0, none⟩ a0).setCell ⟨g, 1, none⟩ a1).setCell ⟨g, 2, none⟩ a2).heap[g]? = some (.cells #[a0, a1, a2] t (0, 0)) :=
  (blk_set (blk_set (blk_set h 0 a0) 1 a1) 2 a2).trans rfl
theorem es_comp : (Tryd.prog.info? 114).map (·.comparable) = some true := by kernel_rfl
theorem es_size : (Tryd.prog.info? 130).map (·.size) = some 1 := by kernel_rfl
set_option maxHeartbeats 400000 in
set_option maxRecDepth 100000 in
theorem alike_same (a : Addr) (w : World) :
    Calls Tryd.prog 71 #[.iface 114 (.pointer (some a)), .iface 114 (.pointer (some a))] w fun e w' => e = .returned (.bool true) ∧ w = w' := by
  obtain ⟨i, hi, hcmp⟩ := Option.map_eq_some_iff.1 es_comp
  obtain ⟨j, hj, _⟩ := Option.map_eq_some_iff.1 es_size
  have hq := fun w => run_eql_iface_ptr_same (P := Tryd.prog) w a Tryd.underlying29 Tryd.underlying114 hi hcmp hj
  go_enter Tryd.func71, Tryd.ntmps71
  go_wp2
  go_ret
  exact ⟨rfl, rfl⟩
set_option maxHeartbeats 400000 in
set_option maxRecDepth 100000 in
theorem alike_other (a b : Addr) (ca cb : Array Value) (ta tb : TypeId) (w : World) (hne : a ≠ b) (ha : w.heap[a.block]? = some (.cells ca ta (0, 0))) (hb : w.heap[b.block]? = some (.cells cb tb (0, 0))) :
    Calls Tryd.prog 71 #[.iface 114 (.pointer (some a)), .iface 114 (.pointer (some b))] w fun e w' => e = .returned (.bool false) ∧ w = w' := by
  obtain ⟨i, hi, hcmp⟩ := Option.map_eq_some_iff.1 es_comp
  obtain ⟨j, hj, hjs⟩ := Option.map_eq_some_iff.1 es_size
  have hq := run_eql_iface_ptr_other (P := Tryd.prog) w Tryd.underlying29 Tryd.underlying114 hi hcmp hj (by rw [hjs]; decide) hne ha hb
  clear ha hb
  go_enter Tryd.func71, Tryd.ntmps71
  go_wp2
  go_ret
  exact ⟨rfl, rfl⟩
set_option maxHeartbeats 400000 in
set_option maxRecDepth 100000 in
theorem sentinels_any (E : Nat → Addr) (w : World) (hE : Errs ordE E w) :
    Calls Tryd.prog 70 #[] w fun e w' => e = .returned (.slice (some ⟨w.heap.size, 0, none⟩) 14 14) ∧ w' = w.alloc (.cells (ordE.map fun i => errV E (some i)).toArray 29) := by
  have h0 := hE.cell 0 (by simp [ordE])
  have h1 := hE.cell 1 (by simp [ordE])
  have h2 := hE.cell 2 (by simp [ordE])
  have h3 := hE.cell 3 (by simp [ordE])
  have h4 := hE.cell 4 (by simp [ordE])
  have h5 := hE.cell 5 (by simp [ordE])
  have h6 := hE.cell 6 (by simp [ordE])
  have h7 := hE.cell 7 (by simp [ordE])
  have h8 := hE.cell 8 (by simp [ordE])
  have h9 := hE.cell 9 (by simp [ordE])
  have h10 := hE.cell 10 (by simp [ordE])
  have h11 := hE.cell 11 (by simp [ordE])
  have h12 := hE.cell 12 (by simp [ordE])
  have h13 := hE.cell 13 (by simp [ordE])
  clear hE
  go_enter Tryd.func70, Tryd.ntmps70
  go_wp2
  go_ret
  exact ⟨rfl, rfl⟩
theorem ord_cell (E : Nat → Addr) {w : World} {g : Nat} (h : w.heap[g]? = some (.cells (ordE.map fun i => errV E (some i)).toArray 29 (0, 0))) (k : Nat) (hk : k < 14) : w.cell? ⟨g, k, none⟩ = some (.iface 114 (.pointer (some (E (ordAt k))))) := by
  rw [blk_cell h k]
  have hl : k < ordE.length := hk
  unfold ordAt
  simp [List.getElem?_eq_getElem hl, List.getD_eq_getElem?_getD, errV]
theorem ord_nodup : ordE.Nodup := by decide
set_option maxHeartbeats 1000000 in
set_option maxRecDepth 100000 in
theorem sentinel_any (E : Nat → Addr) (p : Nat) (hp : p < 14) (w : World) (hE : Errs ordE E w) :
    Calls Tryd.prog 68 #[.iface 114 (.pointer (some (E (ordAt p))))] w fun e w' => e = .returned (.int .i64 (101 + p)) ∧ Below w.heap.size w w' := by
  have HE := Aside0.mk hE
  clear hE
  go_enter Tryd.func68, Tryd.ntmps68
  go_wp2_with fail
  refine (sentinels_any E w HE.out).mono ?_
  rintro e w1 ⟨rfl, hw1⟩
  have hb1 : Below w.heap.size w w1 := by rw [hw1]; exact below_alloc (Below.refl _ _) _
  have hg1 : w1.heap[w.heap.size]? = some (.cells (ordE.map fun i => errV E (some i)).toArray 29 (0, 0)) := by rw [hw1]; exact heap_alloc_new w _
  have HS := Aside0.mk (And.intro hb1 (And.intro hg1 (HE.out.below hb1)))
  clear hw1 hb1 hg1
  obtain ⟨g, hg⟩ : ∃ g, g = w.heap.size := ⟨_, rfl⟩
  rw [← hg] at HS ⊢
  have HG := Aside0.mk hg
  clear hg
  go_wp2_with fail
  go_loop [4] (fun i => ∃ j : Nat, j ≤ p ∧ i = .int .i64 j) (fun i => 14 - (intOf i).toNat)
  case atStart => exact ⟨0, Nat.zero_le _, rfl⟩
  case round =>
    obtain ⟨j, hj, rfl⟩ := hrel
    have hj14 : j < 14 := by omega
    have hc := ord_cell E HS.out.2.1 j hj14
    by_cases hjp : j = p
    · subst hjp
      go_wp2_with (go_at_call 71; refine (alike_same _ _).mono ?_; rintro e w2 ⟨rfl, rfl⟩)
      go_ret
      exact ⟨rfl, HG.out ▸ HS.out.1⟩
    · have hlj : j < ordE.length := hj14
      have hlp : p < ordE.length := hp
      have hmj : ordAt j ∈ ordE := by unfold ordAt; rw [List.getD_eq_getElem?_getD, List.getElem?_eq_getElem hlj]; exact List.getElem_mem _
      have hmp : ordAt p ∈ ordE := by unfold ordAt; rw [List.getD_eq_getElem?_getD, List.getElem?_eq_getElem hlp]; exact List.getElem_mem _
      have hne : ordAt p ≠ ordAt j := by
        unfold ordAt
        rw [List.getD_eq_getElem?_getD, List.getD_eq_getElem?_getD, List.getElem?_eq_getElem hlj, List.getElem?_eq_getElem hlp]
        intro e
        exact hjp ((List.getElem_inj ord_nodup).1 e).symm
      obtain ⟨ca, ta, ha⟩ := HS.out.2.2.blk _ hmp
      obtain ⟨cb, tb, hb⟩ := HS.out.2.2.blk _ hmj
      have HA := Aside0.mk (alike_other _ _ ca cb ta tb w1 (HS.out.2.2.ne _ _ hmp hmj hne) ha hb)
      clear ha hb hmj hmp hlj hlp hne
      go_wp2_with (go_at_call 71; refine HA.out.mono ?_; rintro e w2 ⟨rfl, rfl⟩)
      go_round
      case rel => exact ⟨j + 1, by omega, by go_num⟩
      case measure => simp [intOf]; omega
theorem ord_at (i : Nat) (h : i ∈ ordE) : ∃ p, p < 14 ∧ ordAt p = i ∧ codeOf (some i) = 101 + p := by
  have hl := List.idxOf_lt_length_of_mem h
  refine ⟨ordE.idxOf i, hl, ?_, rfl⟩
  unfold ordAt
  rw [List.getD_eq_getElem?_getD, List.getElem?_eq_getElem hl]
  simp
set_option maxHeartbeats 1000000 in
set_option maxRecDepth 100000 in
theorem none_any (w : World) : Calls Tryd.prog 67 #[] w fun e w' => e = .returned (.agg #[.int .i64 0, .bool false, .int .i64 0]) ∧ Below w.heap.size w w' := by
  have hu := Tryd.underlying83
  go_enter Tryd.func67, Tryd.ntmps67
  go_wp2
  go_returns
  exact ⟨rfl, by go_grown⟩
set_option maxHeartbeats 1000000 in
set_option maxRecDepth 100000 in
theorem bare_any (k : Int) (w : World) : Calls Tryd.prog 47 #[.int .i64 k] w fun e w' => e = .returned (.agg #[.int .i64 k, .bool false, .int .i64 0]) ∧ Below w.heap.size w w' := by
  have hu := Tryd.underlying83
  go_enter Tryd.func47, Tryd.ntmps47
  go_wp2
  go_returns
  exact ⟨rfl, by go_grown⟩
set_option maxHeartbeats 1000000 in
set_option maxRecDepth 100000 in
theorem sameFault_any (a b : Int) (w : World) : Calls Tryd.prog 62 #[.agg #[.int .i64 a, .bool false, .int .i64 0], .agg #[.int .i64 b, .bool false, .int .i64 0]] w fun e w' => e = .returned (.bool (decide (a = b))) ∧ Below w.heap.size w w' := by
  have hu := Tryd.underlying83
  by_cases h : a = b
  · subst h
    rw [decide_eq_true rfl]
    go_enter Tryd.func62, Tryd.ntmps62
    go_wp2
    go_ret
    exact ⟨rfl, by go_grown⟩
  · rw [decide_eq_false h]
    have hb : (a == b) = false := beq_eq_false_iff_ne.2 h
    clear h
    go_enter Tryd.func62, Tryd.ntmps62
    go_wp2
    go_ret
    exact ⟨rfl, by go_grown⟩
set_option maxHeartbeats 1000000 in
set_option maxRecDepth 100000 in
theorem fault_any (E : Nat → Addr) (x : Option Nat) (hx : ∀ i, x = some i → i ∈ ordE) (w : World) (hE : Errs ordE E w) : Calls Tryd.prog 63 #[errV E x] w fun e w' => e = .returned (.agg #[.int .i64 (codeOf x), .bool false, .int .i64 0]) ∧ Below w.heap.size w w' := by
  have hu := Tryd.underlying83
  have hb := below_alloc (Below.refl w.heap.size w) (.cells #[.int .i64 0, .bool false, .int .i64 0] 83)
  cases x with
  | none =>
    simp only [errV, codeOf]
    go_enter Tryd.func63, Tryd.ntmps63
    go_wp2_with fail
    refine (none_any _).mono ?_
    rintro e w1 ⟨rfl, hb1⟩
    have hg2 := blk_below (heap_alloc_new w (.cells #[.int .i64 0, .bool false, .int .i64 0] 83)) hb1
    have hk2 := reach_to' hb hb.size hb1
    have q0 := (blk_cell hg2 0).trans rfl
    have q1 := (blk_cell hg2 1).trans rfl
    have q2 := (blk_cell hg2 2).trans rfl
    have f0 := blk_frozen hg2
    have HK2 := Aside0.mk (And.intro hk2 hg2)
    clear hb hb1 hk2 hg2
    go_wp2
    refine bodyPost_ret (results_cell_row rfl _ _ w.heap.size 83 #[.int .i64 0, .bool false, .int .i64 0] (0, 0) _ rfl (blk_put3 HK2.out.2) hu rfl (by kernel_rfl)) rfl ?_
    exact ⟨rfl, ((HK2.out.1.setCell (Nat.le_refl _) _).setCell (Nat.le_refl _) _).setCell (Nat.le_refl _) _⟩
  | some i =>
    obtain ⟨p, hp, rfl, hcode⟩ := ord_at i (hx i rfl)
    simp only [errV, hcode]
    have HE := Aside0.mk (hE.below hb)
    have hta : ∀ (a : Addr) (W : World), (Instr.typeAssert (.iface 114 (.pointer (some a))) 29 105 true).run Tryd.prog W = .ok (.tuple #[.pointer none, .bool false]) W := fun _ _ => by kernel_rfl
    have ht := hta (E (ordAt p))
    clear hE hta
    go_enter Tryd.func63, Tryd.ntmps63
    go_wp2_with fail
    refine (sentinel_any E p hp _ HE.out).mono ?_
    rintro e w1 ⟨rfl, hb1⟩
    have hk1 := reach_to' hb hb.size hb1
    have hg1 := blk_below (heap_alloc_new w (.cells #[.int .i64 0, .bool false, .int .i64 0] 83)) hb1
    have q0 := (blk_cell hg1 0).trans rfl
    have q1 := (blk_cell hg1 1).trans rfl
    have q2 := (blk_cell hg1 2).trans rfl
    have HK := Aside0.mk (And.intro hk1 hg1)
    clear hb hb1 hk1 hg1
    go_wp2_with fail
    refine (bare_any _ _).mono ?_
    rintro e w2 ⟨rfl, hb2⟩
    have hg2 := blk_below HK.out.2 hb2
    have hk2 := reach_to' HK.out.1 HK.out.1.size hb2
    clear q0 q1 q2
    have q0 := (blk_cell hg2 0).trans rfl
    have q1 := (blk_cell hg2 1).trans rfl
    have q2 := (blk_cell hg2 2).trans rfl
    have f0 := blk_frozen hg2
    have HK2 := Aside0.mk (And.intro hk2 hg2)
    clear hb2 hk2 hg2 HK
    go_wp2
    refine bodyPost_ret (results_cell_row rfl _ _ w.heap.size 83 #[.int .i64 (101 + p), .bool false, .int .i64 0] (0, 0) _ rfl (blk_put3 HK2.out.2) hu rfl (by kernel_rfl)) rfl ?_
    exact ⟨rfl, ((HK2.out.1.setCell (Nat.le_refl _) _).setCell (Nat.le_refl _) _).setCell (Nat.le_refl _) _⟩
set_option maxHeartbeats 1000000 in
set_option maxRecDepth 100000 in
theorem seeSame_any (E : Nat → Addr) (x : Option Nat) (k : Int) (hx : ∀ i, x = some i → i ∈ ordE) (w : World) (hE : Errs ordE E w) : Calls Tryd.prog 46 #[errV E x, .agg #[.int .i64 k, .bool false, .int .i64 0]] w fun e w' => e = .returned (.bool (decide (codeOf x = k))) ∧ Below w.heap.size w w' := by
  have hu := Tryd.underlying83
  obtain ⟨W, hW⟩ : ∃ W, W = w.alloc (.cells #[.int .i64 k, .bool false, .int .i64 0] 83) := ⟨_, rfl⟩
  have hb0 : Below w.heap.size w W := by rw [hW]; exact below_alloc (Below.refl _ _) _
  have hg : W.heap[w.heap.size]? = some (.cells #[.int .i64 k, .bool false, .int .i64 0] 83 (0, 0)) := by rw [hW]; exact heap_alloc_new w _
  have HE := Aside0.mk (hE.below hb0)
  have HX := Aside0.mk hW
  have HS := Aside0.mk (And.intro hb0 hg)
  clear hE hW hb0 hg
  go_enter Tryd.func46, Tryd.ntmps46
  go_wp2_with fail
  have hW := HX.out
  rw [← hW]
  clear HX hW
  obtain ⟨hb0, hg⟩ := HS.out
  have q0 := (blk_cell hg 0).trans rfl
  have q1 := (blk_cell hg 1).trans rfl
  have q2 := (blk_cell hg 2).trans rfl
  clear hg
  have HB := Aside0.mk hb0
  clear hb0 HS
  go_region_held3 (fun w' => w'.cell? ⟨w.heap.size, 0, none⟩ = some (.int .i64 k) ∧ w'.cell? ⟨w.heap.size, 1, none⟩ = some (.bool false) ∧ w'.cell? ⟨w.heap.size, 2, none⟩ = some (.int .i64 0)) ((refine (fun hK : Below W.heap.size W _ => ⟨pw_cell_below hK q0, pw_cell_below hK q1, pw_cell_below hK q2⟩) ?_; first | assumption | exact below_drew (Below.refl _ _)))
    (first | (go_at_call 63; refine (fault_any E x hx _ (HE.out.below (below_drew (Below.refl _ _)))).mono ?_; rintro e w2 ⟨rfl, hb2⟩; have hk2 : Below W.heap.size W w2 := reach_to' (below_drew (Below.refl _ _)) (Nat.le_refl _) hb2) | (go_at_call 62; refine (sameFault_any _ _ _).mono ?_; rintro e w3 ⟨rfl, hb3⟩; have hk3 : Below W.heap.size W w3 := reach_to' hk2 hk2.size hb3))
  all_goals go_wp2
  all_goals go_ret
  all_goals exact ⟨rfl, reach_to' HB.out HB.out.size hk3⟩
set_option maxHeartbeats 1000000 in
set_option maxRecDepth 100000 in
/-- Is an error the one of a number? -/
theorem is_any (E : Nat → Addr) (x : Option Nat) (k : Int) (hx : ∀ i, x = some i → i ∈ ordE) (w : World) (hE : Errs ordE E w) : Calls Tryd.prog 20 #[errV E x, .int .i64 k] w fun e w' => e = .returned (.bool (decide (codeOf x = k))) ∧ Below w.heap.size w w' := by
  have HE := Aside0.mk hE
  clear hE
  generalize hv : errV E x = v
  have HV := Aside0.mk hv
  clear hv
  go_enter Tryd.func20, Tryd.ntmps20
  go_wp2_with fail
  refine (bare_any k _).mono ?_
  rintro e w1 ⟨rfl, hb1⟩
  go_wp2_with fail
  rw [← HV.out]
  refine (seeSame_any E x k hx _ (HE.out.below hb1)).mono ?_
  rintro e w2 ⟨rfl, hb2⟩
  go_wp2
  go_ret
  exact ⟨rfl, reach_to' hb1 hb1.size hb2⟩
end Go.Proofs.YtbgbplbkombfjaaDoor
