/- What a row's list of package api's errors gives a walk: where the variables point, each elsewhere. -/
import Derived.Test.YtbgbplbkombfjaaDoorErrs
import Derived.Test.YtbgbplbkombfjaaDoorRows
import Derived.Stop.ErrReads
import Derived.Stop.LaidErr
import Derived.MakeChecks
namespace Go.Proofs.YtbgbplbkombfjaaDoor
open Go.RowKit Go.ChangeShapes Go.Proofs.YtbgbplbkombfjaaDoorW.PrintWords
set_option linter.unusedVariables false
set_option linter.unusedSimpArgs false
def sent (x : String × List UInt8) : String × DataW Unit := (x.1, .iface "*errors.errorString" (.ptr (.agg [.lit (.string x.2)])))
def atV (W : World) (g : Nat) : Addr :=
  match W.cell? ⟨g, 0, none⟩ with
  | some (.iface _ (.pointer (some a))) => a
  | _ => ⟨0, 0, none⟩
theorem es_row (u : TypeId) (h : Tryd.prog.typeName? 3 u = some "*errors.errorString") : u = 114 :=
  typeName_ptr_named (nm := "errors.errorString") (by rw [show "*" ++ "errors.errorString" = "*errors.errorString" by decide]; kernel_rfl) (by kernel_rfl) (by decide) u (by rw [show "*" ++ "errors.errorString" = "*errors.errorString" by decide]; exact h)
theorem es_cells : Tryd.prog.cellsOf 130 = 1 := by kernel_rfl
theorem es_cells9 : Tryd.prog.cellsOf 9 = 1 := by kernel_rfl
/-- One variable's facts. -/
def SentAt (W : World) (ps : List MemPlace) (x : String × List UInt8) (g : Nat) : Prop :=
  W.cell? ⟨g, 0, none⟩ = some (.iface 114 (.pointer (some (atV W g)))) ∧ (∃ c t, W.heap[(atV W g).block]? = some (.cells c t (0, 0))) ∧ MemPlace.cell (atV W g).block (atV W g).off ∈ ps
set_option maxRecDepth 100000 in
theorem laid_list {W : World} : ∀ (L : List (String × List UInt8)) (ps : List MemPlace), DataW.LaidVars Tryd.prog W (L.map sent) ps → ps.Nodup →
    (∀ b off, MemPlace.cell b off ∈ ps → (∃ c t, W.heap[b]? = some (.cells c t (0, 0))) ∧ ∀ u v, W.cell? ⟨b, off, none⟩ = some (.iface u v) → Value.okWide Tryd.prog W .any 0 u v) →
    (∀ x ∈ L, ∀ g, Tryd.prog.globalNamed x.1 = some g → (Tryd.prog.globals[g]?).map (·.type) = some 29) →
    (∀ x ∈ L, ∀ g, Tryd.prog.globalNamed x.1 = some g → SentAt W ps x g) ∧
      L.Pairwise fun x y => ∀ g g', Tryd.prog.globalNamed x.1 = some g → Tryd.prog.globalNamed y.1 = some g' → atV W g ≠ atV W g' := by
  intro L
  induction L with
  | nil => intro ps _ _ _ _; exact ⟨fun x hx => by simp at hx, List.Pairwise.nil⟩
  | cons x r ih =>
    intro ps hv hnd hrows hty
    obtain ⟨g0, t0, cs0, f0, p0, q0, hg0, ht0, hv0, hd0, hq, rfl⟩ := hv
    obtain rfl := Option.some.inj ((hty x List.mem_cons_self g0 hg0).symm.trans ht0)
    obtain ⟨l0⟩ := cs0
    have ok0 : ∀ u v, l0 = [.iface u v] → Value.okWide Tryd.prog W .any 0 u v := fun u v e => by
      subst e
      exact (hrows g0 0 (by simp [MemPlace.row])).2 u v (by simpa using World.var?_cell hg0 hv0 0)
    obtain ⟨a0, s0, rfl, hc0, _, _, rfl⟩ := errorString_of_trod Tryd.underlying29 es_row Tryd.underlying114 Tryd.underlying130 rfl rfl Tryd.underlying9 es_cells es_cells9 hd0 ok0
    have hcell : W.cell? ⟨g0, 0, none⟩ = some (.iface 114 (.pointer (some a0))) := by simpa using World.var?_cell hg0 hv0 0
    have hat : atV W g0 = a0 := by unfold atV; rw [hcell]
    have hmem : MemPlace.cell a0.block a0.off ∈ (MemPlace.row ⟨g0, 0, none⟩ (Array.size #[Value.iface 114 (.pointer (some a0))]) ++ MemPlace.row a0 1 ++ q0) := by simp [MemPlace.row]
    obtain ⟨h1, h2⟩ := ih q0 hq (List.Nodup.sublist (List.sublist_append_right _ _) hnd) (fun b off hm => hrows b off (List.mem_append_right _ hm)) (fun y hy => hty y (List.mem_cons_of_mem _ hy))
    have hnot : MemPlace.cell a0.block a0.off ∉ q0 := by
      intro hin
      rw [List.nodup_append] at hnd
      exact hnd.2.2 _ (by simp [MemPlace.row]) _ hin rfl
    refine ⟨fun y hy g hg => ?_, List.Pairwise.cons (fun y hy g g' hg hg' => ?_) h2⟩
    · rcases List.mem_cons.1 hy with rfl | hy
      · obtain rfl := Option.some.inj (hg0.symm.trans hg)
        refine ⟨by rw [hat]; exact hcell, ?_, by rw [hat]; exact hmem⟩
        rw [hat]
        exact (hrows _ _ hmem).1
      · obtain ⟨k1, k2, k3⟩ := h1 y hy g hg
        exact ⟨k1, k2, List.mem_append_right _ k3⟩
    · obtain rfl := Option.some.inj (hg0.symm.trans hg)
      rw [hat]
      intro e
      have := (h1 y hy g' hg').2.2
      rw [← e] at this
      exact hnot this
theorem errs_of {W : World} (L : List (String × List UInt8)) (S : List Nat) (h : laidMet Tryd.prog (L.map sent) W) (hty : ∀ x ∈ L, ∀ g, Tryd.prog.globalNamed x.1 = some g → (Tryd.prog.globals[g]?).map (·.type) = some 29) (hS : ∀ i ∈ S, ∃ x ∈ L, Tryd.prog.globalNamed x.1 = some i) : Errs S (atV W) W := by
  obtain ⟨ps, hv, hnd, hrows⟩ := h
  obtain ⟨h1, h2⟩ := laid_list L ps hv hnd hrows hty
  refine ⟨fun i hi => ?_, fun i hi => ?_, fun i j hi hj hne => ?_⟩
  · obtain ⟨x, hx, hg⟩ := hS i hi
    exact (h1 x hx i hg).1
  · obtain ⟨x, hx, hg⟩ := hS i hi
    exact (h1 x hx i hg).2.1
  · obtain ⟨x, hx, hg⟩ := hS i hi
    obtain ⟨y, hy, hg'⟩ := hS j hj
    obtain ⟨p, hp, rfl⟩ := List.getElem_of_mem hx
    obtain ⟨q, hq, rfl⟩ := List.getElem_of_mem hy
    rw [List.pairwise_iff_getElem] at h2
    rcases Nat.lt_trichotomy p q with hpq | hpq | hpq
    · exact h2 p q hp hq hpq i j hg hg'
    · subst hpq
      exact absurd (Option.some.inj (hg.symm.trans hg')) hne
    · exact fun e => h2 q p hq hp hpq j i hg' hg e.symm
end Go.Proofs.YtbgbplbkombfjaaDoor
