/- Whatever argument reads as data lies in memory as its kind says: kind by kind. -/
import Derived.Test.YtbgbplbkombfjaaDoorOwn
import Derived.ProofKit
import Derived.Deep.Slices
namespace Go.Proofs.YtbgbplbkombfjaaDoor
open Go.RowKit Go.Deep Go.Proofs.YtbgbplbkombfjaaDoorW.PrintWords
set_option linter.unusedVariables false
set_option linter.unusedSimpArgs false
section
variable {H : Type} {enc : TypeId × Value → H} {P : Program} {W : World} {base : Nat} {spare : Nat → Bool} {held : Bool} {t e : TypeId} {α β : Type}
def Opens (enc : TypeId × Value → H) (P : Program) (W : World) (base : Nat) (spare : Nat → Bool) (held : Bool) (t : TypeId) (d : Kd α) (G : α → Prop) : Prop :=
  ∀ fuel cs x, DataW.trod enc P W base spare held fuel t cs = some x → ∃ a : α, d.K W a cs ∧ G a
theorem opens_int {k : IntKind} (ht : P.underlying t = some (.int k)) : Opens enc P W base spare held t (Kd.int k) (fun n => (Lit.int k n).wf = true) := by
  intro fuel cs x h
  obtain ⟨n, rfl, _, hw⟩ := DataW.trod_int ht h
  exact ⟨n, rfl, hw⟩
theorem opens_bool (ht : P.underlying t = some .bool) : Opens enc P W base spare held t Kd.bool (fun _ => True) := by
  intro fuel cs x h
  obtain ⟨b, rfl, _⟩ := DataW.trod_bool ht h
  exact ⟨b, rfl, trivial⟩
theorem opens_slice [Inhabited α] {d : Kd α} {G : α → Prop} (ht : P.underlying t = some (.slice e)) (hc : P.cellsOf e = d.sz) (hd : Opens enc P W base spare held e d G) : Opens enc P W base spare held t (Kd.slice e d) (fun l => ∀ a ∈ l, G a) := by
  intro fuel cs x h
  rcases open_slice ht h with ⟨rfl, _⟩ | ⟨a, len, cap, m, n, D, Pl, rfl, hb, hl, hm, hmm, rfl, hx⟩
  · exact ⟨[], ⟨none, 0, rfl, Nat.le_refl _, rfl, by simp, fun h => absurd h (by simp)⟩, fun _ h => by simp at h⟩
  · have hlm : len ≤ m := by rw [hmm]; split <;> omega
    have each : ∀ i, i < len → ∃ q : α, G q ∧ ∃ cs', cs'.length = d.sz ∧ d.K W q cs' ∧ ∀ j u, cs'[j]? = some u → W.cell? (a.add (i * d.sz + j)) = some u := by
      intro i hi
      obtain ⟨cs', h1, h2⟩ := hx i (by omega)
      rw [hc] at h1
      obtain ⟨_, hlen, hcell⟩ := World.cells?_some h1
      obtain ⟨q, hK, hG⟩ := hd _ _ _ h2
      refine ⟨q, hG, cs', hlen, hK, fun j u hu => ?_⟩
      have hj : j < d.sz := by rw [← hlen]; exact (List.getElem?_eq_some_iff.1 hu).1
      have := hcell j hj
      rw [Go.Proofs.YtbgbplbkombfjaaDoorW.PrintWords.add_add] at this
      rw [this, hu]
    obtain ⟨q, hq⟩ := choose_lt each
    have hlen : ((List.range len).map q).length = len := by simp
    refine ⟨(List.range len).map q, ⟨some a, cap, ?_, by rw [hlen]; exact hl, rfl, ?_, fun _ => ⟨a, rfl, fun j p hj => ?_⟩⟩, fun x hx' => ?_⟩
    · rw [hlen]
    · rw [hlen]; simp [maxLen] at hm; omega
    · have hjl : j < len := by have := (List.getElem?_eq_some_iff.1 hj).1; rwa [hlen] at this
      have hp : q j = p := by simpa [hjl] using hj
      subst hp
      obtain ⟨_, cs', h1, h2, h3⟩ := hq j hjl
      exact ⟨cs', h1, h2, h3⟩
    · simp only [List.mem_map, List.mem_range] at hx'
      obtain ⟨i, hi, rfl⟩ := hx'
      exact (hq i hi).1
/-- The fields from one place on. -/
def OpensAt (enc : TypeId × Value → H) (P : Program) (W : World) (base : Nat) (spare : Nat → Bool) (held : Bool) (fs : List Field) (off : Nat) (d : Kd α) (G : α → Prop) : Prop :=
  ∀ (n : Nat) (cs : List Value), (∀ f ∈ fs, ∃ y, DataW.trod enc P W base spare held n f.type ((cs.drop f.offset).take (P.cellsOf f.type)) = some y) → cs.length = off + d.sz → ∃ a, d.K W a (cs.drop off) ∧ G a
theorem opensAt_one {f : Field} {off : Nat} {d : Kd α} {G : α → Prop} (h : Opens enc P W base spare held f.type d G) (ho : f.offset = off) (hc : P.cellsOf f.type = d.sz) : OpensAt enc P W base spare held [f] off d G := by
  intro n cs hf hl
  obtain ⟨y, hy⟩ := hf f List.mem_cons_self
  rw [ho, hc, List.take_of_length_le (by rw [List.length_drop]; omega)] at hy
  exact h _ _ _ hy
theorem opensAt_cons {f : Field} {fs : List Field} {off : Nat} {d : Kd α} {d1 : Kd β} {G : α → Prop} {G1 : β → Prop} (h : Opens enc P W base spare held f.type d G) (ho : f.offset = off) (hc : P.cellsOf f.type = d.sz) (hr : OpensAt enc P W base spare held fs (off + d.sz) d1 G1) : OpensAt enc P W base spare held (f :: fs) off (Kd.pair d d1) (fun x => G x.1 ∧ G1 x.2) := by
  intro n cs hf hl
  obtain ⟨y, hy⟩ := hf f List.mem_cons_self
  rw [ho, hc] at hy
  obtain ⟨a, hK, hG⟩ := h _ _ _ hy
  obtain ⟨b, hK1, hG1⟩ := hr n cs (fun f' hf' => hf f' (List.mem_cons_of_mem _ hf')) (by rw [hl]; show off + (d.sz + d1.sz) = _; omega)
  refine ⟨(a, b), ⟨_, _, ?_, hK, hK1⟩, hG, hG1⟩
  rw [← List.drop_drop, List.take_append_drop]
theorem opens_struct {fs : Array Field} {d : Kd α} {G : α → Prop} (ht : P.underlying t = some (.struct fs)) (hc : P.cellsOf t = d.sz) (h : OpensAt enc P W base spare held fs.toList 0 d G) : Opens enc P W base spare held t d G := by
  intro fuel cs x hx
  obtain ⟨xs, n, _, _, hl, hlen, hf⟩ := DataW.trod_struct ht hx
  have := h n cs (fun f hff => by
    obtain ⟨i, hi, rfl⟩ := List.getElem_of_mem hff
    have h1 := hf i (fs.toList[i]) (by simp)
    have hi2 : i < xs.length := by rw [hlen]; simpa using hi
    rw [List.getElem?_eq_getElem hi2] at h1
    exact ⟨_, h1⟩) (by rw [hl, hc]; omega)
  simpa using this
theorem opens_iso {d : Kd α} {G : α → Prop} (h : Opens enc P W base spare held t d G) (f : β → α) (g : α → β) (hfg : ∀ a, f (g a) = a) : Opens enc P W base spare held t (Kd.iso d f) (fun b => G (f b)) := by
  intro fuel cs x hx
  obtain ⟨a, hK, hG⟩ := h _ _ _ hx
  exact ⟨g a, by show d.K W (f (g a)) cs; rw [hfg]; exact hK, by show G (f (g a)); rw [hfg]; exact hG⟩
theorem opens_imp {d : Kd α} {G G' : α → Prop} (h : Opens enc P W base spare held t d G) (hG : ∀ a, G a → G' a) : Opens enc P W base spare held t d G' := by
  intro fuel cs x hx
  obtain ⟨a, hK, hg⟩ := h _ _ _ hx
  exact ⟨a, hK, hG a hg⟩
end
end Go.Proofs.YtbgbplbkombfjaaDoor
