/- The program's queue and the document's, side by side: what one does leaves the other as it was. -/
import Derived.Test.YtjcihhkeehjgdaaQRflip
import Derived.Test.YtjcihhkeehjgdaaQClone
namespace Go.Proofs.Ytjcihhkeehjgdaa
open Go.RowKit Go.Proofs.YtjcihhkeehjgdaaW.PrintWords SumPlain
set_option linter.unusedVariables false
set_option linter.unusedSimpArgs false
theorem QS.mono {base : Nat} {ok ok' : Nat → Prop} {w : World} {g : Nat} {L : List (Int × List Int)} {d : Int} (h : QS base ok w g L d) (ho : ∀ k, ok k → ok' k) : QS base ok' w g L d := by
  obtain ⟨v, hg, hS⟩ := h
  exact ⟨v, hg, Kd.S_mono hS ho⟩
theorem QS.bound {base : Nat} {ok : Nat → Prop} {w : World} {g : Nat} {L : List (Int × List Int)} {d : Int} (h : QS base ok w g L d) : QS base (fun k => ok k ∧ k < w.heap.size) w g L d := by
  obtain ⟨v, hg, hS⟩ := h
  exact ⟨v, hg, Kd.S_mono (Kd.S_bound hS) (fun k hk => ⟨hk.1, hk.2.2.1⟩)⟩
theorem QS.step {base : Nat} {ok : Nat → Prop} {w w' : World} {g : Nat} {L : List (Int × List Int)} {d : Int} (h : QS base ok w g L d) (hg : w'.heap[g]? = w.heap[g]?) (hk : ∀ k, ok k → k < w.heap.size → w'.heap[k]? = w.heap[k]?) : QS base ok w' g L d := by
  obtain ⟨v, hq, hS⟩ := h
  exact ⟨v, hg.trans hq, Kd.S_step hS hk⟩
theorem QS.lt {base : Nat} {ok : Nat → Prop} {w : World} {g : Nat} {L : List (Int × List Int)} {d : Int} (h : QS base ok w g L d) : g < w.heap.size := by
  obtain ⟨v, hq, hS⟩ := h
  exact blk_lt hq
theorem RQ.mono {base : Nat} {ok ok' : Nat → Prop} {w : World} {g : Nat} {L : List (Int × List Int)} {d : Int} (h : RQ base ok w g L d) (ho : ∀ k, ok k → ok' k) : RQ base ok' w g L d := by
  obtain ⟨v, hg, hS⟩ := h
  exact ⟨v, hg, Kd.R_mono hS ho⟩
theorem RQ.bound {base : Nat} {ok : Nat → Prop} {w : World} {g : Nat} {L : List (Int × List Int)} {d : Int} (h : RQ base ok w g L d) : RQ base (fun k => ok k ∧ k < w.heap.size) w g L d := by
  obtain ⟨v, hg, hS⟩ := h
  exact ⟨v, hg, Kd.R_mono (Kd.R_bound hS) (fun k hk => ⟨hk.1, hk.2.2.1⟩)⟩
theorem RQ.step {base : Nat} {ok : Nat → Prop} {w w' : World} {g : Nat} {L : List (Int × List Int)} {d : Int} (h : RQ base ok w g L d) (hg : w'.heap[g]? = w.heap[g]?) (hk : ∀ k, ok k → k < w.heap.size → w'.heap[k]? = w.heap[k]?) : RQ base ok w' g L d := by
  obtain ⟨v, hq, hS⟩ := h
  exact ⟨v, hg.trans hq, Kd.R_step hS hk⟩
theorem RQ.lt {base : Nat} {ok : Nat → Prop} {w : World} {g : Nat} {L : List (Int × List Int)} {d : Int} (h : RQ base ok w g L d) : g < w.heap.size := by
  obtain ⟨v, hq, hS⟩ := h
  exact blk_lt hq
/-- Both queues, apart. -/
structure PS (B : Nat) (w : World) (gx gy : Nat) (Lx Ly : List (Int × List Int)) (dx dy : Int) (okx oky : Nat → Prop) : Prop where
  x : QS B okx w gx Lx dx
  y : RQ B oky w gy Ly dy
  ap : ∀ k, okx k → oky k → False
  bx : ∀ k, okx k → k < w.heap.size ∧ k ≠ gy
  by_ : ∀ k, oky k → k < w.heap.size ∧ k ≠ gx
  ne : gx ≠ gy
  bgx : B ≤ gx
  bgy : B ≤ gy
  bw : B ≤ w.heap.size
/-- What else the call made: apart from both, as it was in wr. -/
structure Side (D : Nat → Prop) (wr w : World) (gx gy : Nat) (okx oky : Nat → Prop) : Prop where
  lt : ∀ k, D k → k < w.heap.size
  nx : ∀ k, D k → k ≠ gx
  ny : ∀ k, D k → k ≠ gy
  ox : ∀ k, D k → ¬ okx k
  oy : ∀ k, D k → ¬ oky k
  keep : ∀ k, D k → w.heap[k]? = wr.heap[k]?
def PQ (D : Nat → Prop) (wr : World) (B : Nat) (w : World) (gx gy : Nat) (Lx Ly : List (Int × List Int)) (dx dy : Int) : Prop := ∃ okx oky, PS B w gx gy Lx Ly dx dy okx oky ∧ Side D wr w gx gy okx oky
theorem Side.below {D : Nat → Prop} {wr w w' : World} {gx gy : Nat} {okx oky : Nat → Prop} (h : Side D wr w gx gy okx oky) (hb : Below w.heap.size w w') : Side D wr w' gx gy okx oky :=
  ⟨fun k hk => Nat.lt_of_lt_of_le (h.lt k hk) hb.size, h.nx, h.ny, h.ox, h.oy, fun k hk => (hb.block k (h.lt k hk)).trans (h.keep k hk)⟩
theorem Side.xstep {D : Nat → Prop} {wr w w' : World} {gx gy : Nat} {okx oky : Nat → Prop} (h : Side D wr w gx gy okx oky) (hs : w.heap.size ≤ w'.heap.size) (hf : FrQ (fun k => okx k ∨ w.heap.size ≤ k) gx w w') : Side D wr w' gx gy (fun k => (okx k ∨ w.heap.size ≤ k) ∧ k < w'.heap.size) oky :=
  ⟨fun k hk => Nat.lt_of_lt_of_le (h.lt k hk) hs, h.nx, h.ny, fun k hk => by
    rintro ⟨h1 | h1, _⟩
    · exact h.ox k hk h1
    · have := h.lt k hk; omega, h.oy, fun k hk => (hf k (h.lt k hk) (h.nx k hk) (by
    rintro (h1 | h1)
    · exact h.ox k hk h1
    · have := h.lt k hk; omega)).trans (h.keep k hk)⟩
theorem Side.ystep {D : Nat → Prop} {wr w w' : World} {gx gy : Nat} {okx oky : Nat → Prop} (h : Side D wr w gx gy okx oky) (hs : w.heap.size ≤ w'.heap.size) (hf : FrQ (fun k => oky k ∨ w.heap.size ≤ k) gy w w') : Side D wr w' gx gy okx (fun k => (oky k ∨ w.heap.size ≤ k) ∧ k < w'.heap.size) :=
  ⟨fun k hk => Nat.lt_of_lt_of_le (h.lt k hk) hs, h.nx, h.ny, h.ox, fun k hk => by
    rintro ⟨h1 | h1, _⟩
    · exact h.oy k hk h1
    · have := h.lt k hk; omega, fun k hk => (hf k (h.lt k hk) (h.ny k hk) (by
    rintro (h1 | h1)
    · exact h.oy k hk h1
    · have := h.lt k hk; omega)).trans (h.keep k hk)⟩
theorem PS.below {B : Nat} {w w' : World} {gx gy : Nat} {Lx Ly : List (Int × List Int)} {dx dy : Int} {okx oky : Nat → Prop} (h : PS B w gx gy Lx Ly dx dy okx oky) (hb : Below w.heap.size w w') : PS B w' gx gy Lx Ly dx dy okx oky :=
  ⟨h.x.below hb, h.y.below hb, h.ap, fun k hk => ⟨Nat.lt_of_lt_of_le (h.bx k hk).1 hb.size, (h.bx k hk).2⟩, fun k hk => ⟨Nat.lt_of_lt_of_le (h.by_ k hk).1 hb.size, (h.by_ k hk).2⟩, h.ne, h.bgx, h.bgy, Nat.le_trans h.bw hb.size⟩
theorem PQ.below {D : Nat → Prop} {wr : World} {B : Nat} {w w' : World} {gx gy : Nat} {Lx Ly : List (Int × List Int)} {dx dy : Int} (h : PQ D wr B w gx gy Lx Ly dx dy) (hb : Below w.heap.size w w') : PQ D wr B w' gx gy Lx Ly dx dy := by
  obtain ⟨okx, oky, h, hD⟩ := h
  exact ⟨okx, oky, h.below hb, hD.below hb⟩
theorem PQ.kept {D : Nat → Prop} {wr : World} {B : Nat} {w : World} {gx gy : Nat} {Lx Ly : List (Int × List Int)} {dx dy : Int} (h : PQ D wr B w gx gy Lx Ly dx dy) {k : Nat} (hk : D k) : w.heap[k]? = wr.heap[k]? := by
  obtain ⟨okx, oky, _, hD⟩ := h
  exact hD.keep k hk
/-- New blocks, apart from both. -/
theorem Side.more {D : Nat → Prop} {wr : World} {B : Nat} {w w1 : World} {gx gy : Nat} {Lx Ly : List (Int × List Int)} {dx dy : Int} {okx oky : Nat → Prop} (hD : Side D wr w gx gy okx oky) (h : PS B w gx gy Lx Ly dx dy okx oky) (hb : Below w.heap.size w w1) (D1 : Nat → Prop) (hD1 : ∀ k, D1 k → D k ∨ (w.heap.size ≤ k ∧ k < w1.heap.size)) : Side D1 w1 w1 gx gy okx oky := by
  refine ⟨fun k hk => ?_, fun k hk e => ?_, fun k hk e => ?_, fun k hk e => ?_, fun k hk e => ?_, fun _ _ => rfl⟩
  · rcases hD1 k hk with h1 | h1
    · exact Nat.lt_of_lt_of_le (hD.lt k h1) hb.size
    · exact h1.2
  · rcases hD1 k hk with h1 | h1
    · exact hD.nx k h1 e
    · have := h.x.lt; omega
  · rcases hD1 k hk with h1 | h1
    · exact hD.ny k h1 e
    · have := h.y.lt; omega
  · rcases hD1 k hk with h1 | h1
    · exact hD.ox k h1 e
    · have := (h.bx k e).1; omega
  · rcases hD1 k hk with h1 | h1
    · exact hD.oy k h1 e
    · have := (h.by_ k e).1; omega
theorem PQ.aside {D : Nat → Prop} {wr : World} {B : Nat} {w w1 : World} {gx gy : Nat} {Lx Ly : List (Int × List Int)} {dx dy : Int} (h : PQ D wr B w gx gy Lx Ly dx dy) (hb : Below w.heap.size w w1) (D1 : Nat → Prop) (hD1 : ∀ k, D1 k → D k ∨ (w.heap.size ≤ k ∧ k < w1.heap.size)) : PQ D1 w1 B w1 gx gy Lx Ly dx dy := by
  obtain ⟨okx, oky, h, hD⟩ := h
  exact ⟨okx, oky, h.below hb, hD.more h hb D1 hD1⟩
/-- Both queues, just made. -/
theorem PQ.new {B : Nat} {w1 : World} {gx gy : Nat} (hx : ∀ ok, QS B ok w1 gx [] 0) (hy : ∀ ok, RQ B ok w1 gy [] 0) (hne : gx ≠ gy) (hgx : B ≤ gx) (hgy : B ≤ gy) (hB : B ≤ w1.heap.size) : PQ (fun _ => False) w1 B w1 gx gy [] [] 0 0 :=
  ⟨fun _ => False, fun _ => False, ⟨hx _, hy _, fun _ h _ => h, fun _ h => h.elim, fun _ h => h.elim, hne, hgx, hgy, hB⟩, ⟨fun _ h => h.elim, fun _ h => h.elim, fun _ h => h.elim, fun _ h => h.elim, fun _ h => h.elim, fun _ h => h.elim⟩⟩
theorem PQ.bare {D : Nat → Prop} {wr : World} {B : Nat} {w : World} {gx gy : Nat} {Lx Ly : List (Int × List Int)} {dx dy : Int} (h : PQ D wr B w gx gy Lx Ly dx dy) (wr1 : World) : PQ (fun _ => False) wr1 B w gx gy Lx Ly dx dy := by
  obtain ⟨okx, oky, h, _⟩ := h
  exact ⟨okx, oky, h, ⟨fun _ h => h.elim, fun _ h => h.elim, fun _ h => h.elim, fun _ h => h.elim, fun _ h => h.elim, fun _ h => h.elim⟩⟩
theorem PQ.px {D : Nat → Prop} {wr : World} {B : Nat} {w : World} {gx gy : Nat} {Lx Ly : List (Int × List Int)} {dx dy : Int} (h : PQ D wr B w gx gy Lx Ly dx dy) : ∃ ok, QS B ok w gx Lx dx := by
  obtain ⟨okx, oky, h, _⟩ := h
  exact ⟨okx, h.x⟩
theorem PQ.py {D : Nat → Prop} {wr : World} {B : Nat} {w : World} {gx gy : Nat} {Lx Ly : List (Int × List Int)} {dx dy : Int} (h : PQ D wr B w gx gy Lx Ly dx dy) : ∃ ok, RQ B ok w gy Ly dy := by
  obtain ⟨okx, oky, h, _⟩ := h
  exact ⟨oky, h.y⟩
/-- Something was done with the program's queue. -/
theorem PS.xstep' {D : Nat → Prop} {wr : World} {B : Nat} {w w' : World} {gx gy : Nat} {Lx Ly Lx' : List (Int × List Int)} {dx dy dx' : Int} {okx oky : Nat → Prop} (h : PS B w gx gy Lx Ly dx dy okx oky) (hD : Side D wr w gx gy okx oky) (hx : QS B (fun k => okx k ∨ w.heap.size ≤ k) w' gx Lx' dx') (hs : w.heap.size ≤ w'.heap.size) (hf : FrQ (fun k => okx k ∨ w.heap.size ≤ k) gx w w') : PS B w' gx gy Lx' Ly dx' dy (fun k => (okx k ∨ w.heap.size ≤ k) ∧ k < w'.heap.size) oky ∧ Side D wr w' gx gy (fun k => (okx k ∨ w.heap.size ≤ k) ∧ k < w'.heap.size) oky := by
  have hgy := h.y.lt
  refine ⟨⟨hx.bound, h.y.step (hf gy hgy h.ne.symm ?_) ?_, ?_, ?_, ?_, h.ne, h.bgx, h.bgy, Nat.le_trans h.bw hs⟩, hD.xstep hs hf⟩
  · rintro (hk | hk)
    · exact (h.bx gy hk).2 rfl
    · omega
  · intro k hk hlt
    refine hf k hlt (h.by_ k hk).2 ?_
    rintro (hk2 | hk2)
    · exact h.ap k hk2 hk
    · omega
  · rintro k ⟨hk | hk, _⟩ hk2
    · exact h.ap k hk hk2
    · have := (h.by_ k hk2).1; omega
  · rintro k ⟨hk | hk, hlt⟩
    · exact ⟨hlt, (h.bx k hk).2⟩
    · exact ⟨hlt, by omega⟩
  · intro k hk
    exact ⟨Nat.lt_of_lt_of_le (h.by_ k hk).1 hs, (h.by_ k hk).2⟩
theorem PS.xstep {D : Nat → Prop} {wr : World} {B : Nat} {w w' : World} {gx gy : Nat} {Lx Ly Lx' : List (Int × List Int)} {dx dy dx' : Int} {okx oky : Nat → Prop} (h : PS B w gx gy Lx Ly dx dy okx oky) (hD : Side D wr w gx gy okx oky) (hx : QS B (fun k => okx k ∨ w.heap.size ≤ k) w' gx Lx' dx') (hs : w.heap.size ≤ w'.heap.size) (hf : FrQ (fun k => okx k ∨ w.heap.size ≤ k) gx w w') : PQ D wr B w' gx gy Lx' Ly dx' dy :=
  ⟨_, _, h.xstep' hD hx hs hf⟩
/-- Something was done with the document's queue. -/
theorem PS.ystep {D : Nat → Prop} {wr : World} {B : Nat} {w w' : World} {gx gy : Nat} {Lx Ly Ly' : List (Int × List Int)} {dx dy dy' : Int} {okx oky : Nat → Prop} (h : PS B w gx gy Lx Ly dx dy okx oky) (hD : Side D wr w gx gy okx oky) (hy : RQ B (fun k => oky k ∨ w.heap.size ≤ k) w' gy Ly' dy') (hs : w.heap.size ≤ w'.heap.size) (hf : FrQ (fun k => oky k ∨ w.heap.size ≤ k) gy w w') : PQ D wr B w' gx gy Lx Ly' dx dy' := by
  have hgx := h.x.lt
  refine ⟨okx, fun k => (oky k ∨ w.heap.size ≤ k) ∧ k < w'.heap.size, ⟨h.x.step (hf gx hgx h.ne ?_) ?_, hy.bound, ?_, ?_, ?_, h.ne, h.bgx, h.bgy, Nat.le_trans h.bw hs⟩, hD.ystep hs hf⟩
  · rintro (hk | hk)
    · exact (h.by_ gx hk).2 rfl
    · omega
  · intro k hk hlt
    refine hf k hlt (h.bx k hk).2 ?_
    rintro (hk2 | hk2)
    · exact h.ap k hk hk2
    · omega
  · rintro k hk ⟨hk2 | hk2, _⟩
    · exact h.ap k hk hk2
    · have := (h.bx k hk).1; omega
  · intro k hk
    exact ⟨Nat.lt_of_lt_of_le (h.bx k hk).1 hs, (h.bx k hk).2⟩
  · rintro k ⟨hk | hk, hlt⟩
    · exact ⟨hlt, (h.by_ k hk).2⟩
    · exact ⟨hlt, by omega⟩
end Go.Proofs.Ytjcihhkeehjgdaa
