/-
  'rivulet/rivuletlaw4.WireReads': it returns true for every input; package api's errors as the program's text lays them (the card ties them), no other condition.
  The frame after the kit's UptoLaidToy and proof-skeleton; the walk out of this seat's own texts.
-/
import Derived.Test.YtbgbplbkombfjaaDoorLawWireReads
import Derived.Test.YtbgbplbkombfjaaDoorRowMsg
import Derived.Test.YtbgbplbkombfjaaDoorCards
import Derived.Test.YtbgbplbkombfjaaDoorTie
import Derived.Test.YtbgbplbkombfjaaDoorLaid
import Derived.Test.YtbgbplbkombfjaaDoorOpens
import Derived.WalkKit
import Derived.ProofKit
import Derived.OpenShut
import Derived.ShutString
import Derived.ChangeOld
import Derived.Below
import Derived.Deep.DeepHandedRow
import Derived.Deep.DeepWitnessRowRef
import Derived.Lib.LaidTab
namespace Go.Proofs.YtbgbplbkombfjaaDoor.wireReads
open Go.ChangeShapes Go.WideShapes Go.ChangeAt Go.RowKit Go.Proofs.YtbgbplbkombfjaaDoorW.PrintWords
open Go.ChangeMaps (open_string shut_string)
set_option linter.unusedVariables false
set_option linter.unusedSimpArgs false

theorem own : ownKnob Tryd.prog.godebug = none := by kernel_rfl
theorem laidOut : laidOutB Tryd.prog = true := by kernel_rfl
def L : List (String × List UInt8) := [("rivulet/api.ErrEnd", [105, 116, 32, 101, 110, 100, 115, 32, 116, 111, 111, 32, 101, 97, 114, 108, 121]), ("rivulet/api.ErrShape", [110, 111, 116, 32, 97, 115, 32, 105, 116, 32, 104, 97, 115, 32, 116, 111, 32, 98, 101]), ("rivulet/api.ErrRange", [97, 32, 110, 117, 109, 98, 101, 114, 32, 111, 117, 116, 32, 111, 102, 32, 105, 116, 115, 32, 114, 97, 110, 103, 101]), ("rivulet/api.ErrMany", [116, 111, 111, 32, 109, 97, 110, 121]), ("rivulet/api.ErrSum", [116, 104, 101, 32, 115, 117, 109, 32, 105, 115, 32, 97, 110, 111, 116, 104, 101, 114, 32, 111, 110, 101]), ("rivulet/api.ErrKind", [110, 111, 116, 32, 111, 102, 32, 116, 104, 97, 116, 32, 107, 105, 110, 100])]
def S : List Nat := [1, 2, 0, 5, 3, 4]
theorem errs {W : World} (hL : laidMetH Tryd.prog Rows.wireReadsRow.laid W) : Errs S (atV W) W := by
  have h1 : laidMet Tryd.prog Rows.wireReadsRow.laid W := by
    rw [Go.MakeChecks.laidMetH_plain _ _ _ (by kernel_rfl)] at hL
    exact hL
  have h2 : laidMet Tryd.prog (L.map sent) W := h1
  refine errs_of L S h2 ?_ ?_
  · intro x hx g hg
    simp only [L, List.mem_cons, List.not_mem_nil, or_false] at hx
    rcases hx with rfl | rfl | rfl | rfl | rfl | rfl
    · obtain rfl := Option.some.inj ((show Tryd.prog.globalNamed "rivulet/api.ErrEnd" = some 1 by kernel_rfl).symm.trans hg); kernel_rfl
    · obtain rfl := Option.some.inj ((show Tryd.prog.globalNamed "rivulet/api.ErrShape" = some 2 by kernel_rfl).symm.trans hg); kernel_rfl
    · obtain rfl := Option.some.inj ((show Tryd.prog.globalNamed "rivulet/api.ErrRange" = some 0 by kernel_rfl).symm.trans hg); kernel_rfl
    · obtain rfl := Option.some.inj ((show Tryd.prog.globalNamed "rivulet/api.ErrMany" = some 5 by kernel_rfl).symm.trans hg); kernel_rfl
    · obtain rfl := Option.some.inj ((show Tryd.prog.globalNamed "rivulet/api.ErrSum" = some 3 by kernel_rfl).symm.trans hg); kernel_rfl
    · obtain rfl := Option.some.inj ((show Tryd.prog.globalNamed "rivulet/api.ErrKind" = some 4 by kernel_rfl).symm.trans hg); kernel_rfl
  · intro i hi
    simp only [S, List.mem_cons, List.not_mem_nil, or_false] at hi
    rcases hi with rfl | rfl | rfl | rfl | rfl | rfl
    · exact ⟨("rivulet/api.ErrEnd", [105, 116, 32, 101, 110, 100, 115, 32, 116, 111, 111, 32, 101, 97, 114, 108, 121]), by simp [L], by kernel_rfl⟩
    · exact ⟨("rivulet/api.ErrShape", [110, 111, 116, 32, 97, 115, 32, 105, 116, 32, 104, 97, 115, 32, 116, 111, 32, 98, 101]), by simp [L], by kernel_rfl⟩
    · exact ⟨("rivulet/api.ErrRange", [97, 32, 110, 117, 109, 98, 101, 114, 32, 111, 117, 116, 32, 111, 102, 32, 105, 116, 115, 32, 114, 97, 110, 103, 101]), by simp [L], by kernel_rfl⟩
    · exact ⟨("rivulet/api.ErrMany", [116, 111, 111, 32, 109, 97, 110, 121]), by simp [L], by kernel_rfl⟩
    · exact ⟨("rivulet/api.ErrSum", [116, 104, 101, 32, 115, 117, 109, 32, 105, 115, 32, 97, 110, 111, 116, 104, 101, 114, 32, 111, 110, 101]), by simp [L], by kernel_rfl⟩
    · exact ⟨("rivulet/api.ErrKind", [110, 111, 116, 32, 111, 102, 32, 116, 104, 97, 116, 32, 107, 105, 110, 100]), by simp [L], by kernel_rfl⟩

noncomputable def low : Nat := (World.settled Tryd.prog default).heap.size
/-- A world for the witness: the settled one, the listed variables holding what their initialisers lay. -/
noncomputable def laidWorld (os : Os) : World :=
  let w0 := World.holding Tryd.prog os ⟨#[.cells #[.string { data := #[105, 116, 32, 101, 110, 100, 115, 32, 116, 111, 111, 32, 101, 97, 114, 108, 121] }] 130, .cells #[.string { data := #[110, 111, 116, 32, 97, 115, 32, 105, 116, 32, 104, 97, 115, 32, 116, 111, 32, 98, 101] }] 130, .cells #[.string { data := #[97, 32, 110, 117, 109, 98, 101, 114, 32, 111, 117, 116, 32, 111, 102, 32, 105, 116, 115, 32, 114, 97, 110, 103, 101] }] 130, .cells #[.string { data := #[116, 111, 111, 32, 109, 97, 110, 121] }] 130, .cells #[.string { data := #[116, 104, 101, 32, 115, 117, 109, 32, 105, 115, 32, 97, 110, 111, 116, 104, 101, 114, 32, 111, 110, 101] }] 130, .cells #[.string { data := #[110, 111, 116, 32, 111, 102, 32, 116, 104, 97, 116, 32, 107, 105, 110, 100] }] 130], #[], []⟩
  let put (h : Array Obj) (g : Nat) (cs : Array Value) : Array Obj := h.modify g fun
    | .cells _ t frozen => .cells cs t frozen
    | o => o
  { w0 with heap := put (put (put (put (put (put (w0.heap) 1 #[.iface 114 (.pointer (some ⟨low + 0, 0, none⟩))]) 2 #[.iface 114 (.pointer (some ⟨low + 1, 0, none⟩))]) 0 #[.iface 114 (.pointer (some ⟨low + 2, 0, none⟩))]) 5 #[.iface 114 (.pointer (some ⟨low + 3, 0, none⟩))]) 3 #[.iface 114 (.pointer (some ⟨low + 4, 0, none⟩))]) 4 #[.iface 114 (.pointer (some ⟨low + 5, 0, none⟩))] }
theorem laid_met (os : Os) : laidMet Tryd.prog Rows.wireReadsRow.laid ((laidWorld os).forCall (fun _ _ => 0) ⟨#[], #[.slice none 0 0], []⟩).memory :=
  laidMet_of_run (ps := [.cell 1 0, .cell (low + 0) 0, .cell 2 0, .cell (low + 1) 0, .cell 0 0, .cell (low + 2) 0, .cell 5 0, .cell (low + 3) 0, .cell 3 0, .cell (low + 4) 0, .cell 4 0, .cell (low + 5) 0]) 8 (by kernel_rfl) (by kernel_rfl) (by kernel_rfl)
theorem witness_row (os : Os) {H : Type} (enc : TypeId × Value → H) :
    (OpenSpec.ofChange Rows.wireReadsSpec).preRow enc Tryd.prog Tryd.f11 Rows.wireReadsRow.domain false Rows.wireReadsRow.laid ((laidWorld os).forCall (fun _ _ => 0) ⟨#[], #[.slice none 0 0], []⟩).memory #[.slice none 0 0] := by
  have hw : (DataW.whole enc Tryd.prog ((laidWorld os).forCall (fun _ _ => 0) ⟨#[], #[.slice none 0 0], []⟩).memory Tryd.f11.params.toList Rows.wireReadsSpec.vars false (#[.slice none 0 0] : Array Value).toList 8).map (fun x => (x.1, x.2.1)) =
      some ([.nil], []) := by kernel_rfl
  obtain ⟨⟨x1, x2, x3⟩, hx, hx1⟩ := Option.map_eq_some_iff.1 hw
  simp only [Prod.mk.injEq] at hx1
  obtain ⟨rfl, rfl⟩ := hx1
  exact OpenSpec.preRow_of_cond 8 hx (by kernel_rfl) (fun k hk => by cases hk) (by kernel_rfl) (laid_met os)

set_option maxRecDepth 100000 in
theorem contract (H : Type) (enc : TypeId × Value → H) (W : World) (base : Nat) (args : Array Value) (ds gs : List (DataW H)) (before : List MemPlace)
    (hval0 : ∀ (j : Nat) t v, Tryd.f11.params[j]? = some t → args[j]? = some v → Value.okWide Tryd.prog W .any base t v)
    (hW : DataW.Whole enc Tryd.prog Tryd.f11.params.toList Rows.wireReadsSpec.vars false W args.toList ds gs before) (hL : laidMetH Tryd.prog Rows.wireReadsRow.laid W) :
    Calls Tryd.prog 11 args W fun e W' => ∃ v, e = .returned v ∧ Rows.wireReadsSpec.post enc Tryd.prog Tryd.f11 false true false false W args v W' := by
  have hE := errs hL
  clear hL
  have hval : ∀ (j : Nat) t v, Tryd.f11.params[j]? = some t → args[j]? = some v → Value.okWide Tryd.prog W .any base t v := hval0
  have hW' := hW
  obtain ⟨p, q, hA0, hV, rfl, hfz, hnd⟩ := hW
  have hA : DataW.TrodAll enc Tryd.prog W 0 (fun _ => true) true Tryd.f11.params.toList args.toList ds p := hA0
  rw [Tryd.params11] at hA hval
  obtain ⟨v0, vs0, d0, ds0, p0, q0, hargs, rfl, rfl, h0, r0⟩ := trodAll_cons hA
  obtain ⟨rfl, rfl, rfl⟩ := trodAll_nil r0
  obtain rfl : args = #[v0] := by cases args; simp_all
  obtain ⟨rfl, rfl⟩ := trodVars_none hV
  obtain ⟨A0, n0, c0, rfl⟩ := okWide_slice Tryd.underlying26 (hval 0 26 v0 rfl rfl)
  have k0 := h0
  have lt0 : ∀ x ∈ p0, x.block < W.heap.size := by obtain ⟨m, hm⟩ := k0; exact DataW.trod_lt m _ _ _ hm
  obtain ⟨l0, hle0, hC0, hG0⟩ : ∃ l, n0 ≤ c0 ∧ Kd.C (Kd.int .u8) W A0 n0 l ∧ GoodBytes l := by
    obtain ⟨fuel, hf⟩ := h0
    obtain ⟨l, ⟨A', c', hcs, hle, hC⟩, hG⟩ := opens_bytes fuel _ _ hf
    simp [Value.cells] at hcs
    obtain ⟨rfl, rfl, rfl⟩ := hcs
    exact ⟨l, hle, hC, hG⟩
  clear hA0 hval0
  refine (wireReads_all (atV W) A0 n0 c0 l0 W (hE.sub (by decide)) hC0 hG0 hle0).mono fun e W' ⟨he, bel⟩ => ?_
  subst he
  exact ⟨_, rfl, _, _, _, [], _, [], hW', trodAll_mk1 (shut_bool Tryd.underlying4 _), (trodAll_cons_mk (Below.trod laidOut (by kernel_rfl) (of_decide_eq_true (by kernel_rfl)) k0 bel lt0) trodAll_mk0), rfl, bel.frame _, fun h => by cases h⟩

set_option maxRecDepth 100000 in
theorem lifted (os : Os) (started : os.Started) (H : Type) (enc : TypeId × Value → H) (F : Stop.Interp) :
    ReturnsInHanded {} Tryd.checked os 11 .any ((OpenSpec.ofChange Rows.wireReadsSpec).preRow enc Tryd.prog Tryd.f11 Rows.wireReadsRow.domain false Rows.wireReadsRow.laid) (((OpenSpec.ofChange Rows.wireReadsSpec).at F).post enc Tryd.prog Tryd.f11 false true false false) := by
  refine returnsInHanded_of_row (C := Tryd.checked) (s := OpenSpec.ofChange Rows.wireReadsSpec) own started (by kernel_rfl) Tryd.func11
    (witness_row_atRef (enc := enc) (C := Tryd.checked) false (laidWorld os) #[.slice none 0 0] rfl (by kernel_rfl) (by kernel_rfl) (by kernel_rfl) (witness_row os enc)) ?_
  intro W base args ds gs before hval hW _ _ _ hL _ _
  exact contract H enc W base args ds gs before hval hW hL

theorem said : Rows.WireReadsSaid :=
  OpenClaim.holds_of_cond 11 Tryd.f11 rfl rfl rfl rfl rfl rfl rfl ⟨rfl, rfl, rfl, rfl, rfl⟩ rfl rfl rfl rfl rfl (by kernel_rfl) Tryd.func11 (by kernel_rfl)
    (of_decide_eq_true (by kernel_rfl)) (by unfold Func.isWrapper; first | (rw [if_pos (by decide +kernel)]; kernel_rfl) | (rw [if_neg (by decide +kernel)]; exact ⟨rfl, rfl⟩))
    (fun os started H enc _ F => by rw [OpenClaim.pre_eq_preRow]; exact lifted os started H enc F)

theorem plain (f : FuncId) (fn : Func) (hf : Tryd.pinned.checked.prog.funcNamed "rivulet/rivuletlaw4.WireReads" = some f) (hfn : Tryd.pinned.checked.prog.funcs[f]? = some fn) :
    true = Tryd.pinned.checked.prog.looks [] ∧ ∀ (j : Nat) t, fn.params[j]? = some t → Tryd.pinned.checked.prog.wantsStandIn t = false := by
  obtain rfl : f = 11 := Option.some.inj ((show Tryd.prog.funcNamed "rivulet/rivuletlaw4.WireReads" = some 11 by kernel_rfl).symm.trans hf) |>.symm
  obtain rfl : fn = Tryd.f11 := (Option.some.inj (Tryd.func11.symm.trans hfn)).symm
  refine ⟨by kernel_rfl, fun j t ht => ?_⟩
  rw [Tryd.params11] at ht
  have hm := Array.mem_of_getElem? ht
  simp only [List.mem_toArray, List.mem_cons, List.not_mem_nil, or_false] at hm
  rcases hm with rfl
  · exact (show Tryd.prog.wantsStandIn 26 = false by kernel_rfl)
theorem card : Rows.WireReadsCardSaid :=
  Claim7.holds_tied_plain_at .later [] _ _ _ _ said (fun _ h => by cases h) (by kernel_rfl) (fun _ h => by cases h) wireReads_row_tie rfl ⟨rfl, rfl⟩ (by kernel_rfl) rfl plain (by kernel_rfl)
end Go.Proofs.YtbgbplbkombfjaaDoor.wireReads
namespace Go.Proofs.YtbgbplbkombfjaaDoor
theorem wireReads_card : Rows.WireReadsCardSaid := wireReads.card
#print axioms wireReads_card
end Go.Proofs.YtbgbplbkombfjaaDoor
