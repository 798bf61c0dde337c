/-
  'rivulet/rivuletlaw4.WireTwins': it returns true for every input; package api's errors as the program's text lays them (the card ties them), no other condition.
  The frame after the kit's UptoLaidToy and proof-skeleton; the walk out of this seat's own texts.
-/
import Derived.Test.YtbgbplbkombfjaaDoorLawWireTwins
import Derived.Test.YtbgbplbkombfjaaDoorRowMsg
import Derived.Test.YtbgbplbkombfjaaDoorCards
import Derived.Test.YtbgbplbkombfjaaDoorTie
import Derived.Test.YtbgbplbkombfjaaDoorLaid
import Derived.Test.YtbgbplbkombfjaaDoorOpens
import Derived.WalkKit
import Derived.ProofKit
import Derived.OpenShut
import Derived.ShutString
import Derived.ChangeOld
import Derived.Below
import Derived.Deep.DeepHandedRow
import Derived.Deep.DeepWitnessRowRef
import Derived.Lib.LaidTab
namespace Go.Proofs.YtbgbplbkombfjaaDoor.wireTwins
open Go.ChangeShapes Go.WideShapes Go.ChangeAt Go.RowKit Go.Proofs.YtbgbplbkombfjaaDoorW.PrintWords
open Go.ChangeMaps (open_string shut_string)
set_option linter.unusedVariables false
set_option linter.unusedSimpArgs false

theorem own : ownKnob Tryd.prog.godebug = none := by kernel_rfl
theorem laidOut : laidOutB Tryd.prog = true := by kernel_rfl
def L : List (String × List UInt8) := [("rivulet/api.ErrRange", [97, 32, 110, 117, 109, 98, 101, 114, 32, 111, 117, 116, 32, 111, 102, 32, 105, 116, 115, 32, 114, 97, 110, 103, 101]), ("rivulet/api.ErrMany", [116, 111, 111, 32, 109, 97, 110, 121]), ("rivulet/api.ErrKind", [110, 111, 116, 32, 111, 102, 32, 116, 104, 97, 116, 32, 107, 105, 110, 100])]
def S : List Nat := [0, 5, 4]
theorem errs {W : World} (hL : laidMetH Tryd.prog Rows.wireTwinsRow.laid W) : Errs S (atV W) W := by
  have h1 : laidMet Tryd.prog Rows.wireTwinsRow.laid W := by
    rw [Go.MakeChecks.laidMetH_plain _ _ _ (by kernel_rfl)] at hL
    exact hL
  have h2 : laidMet Tryd.prog (L.map sent) W := h1
  refine errs_of L S h2 ?_ ?_
  · intro x hx g hg
    simp only [L, List.mem_cons, List.not_mem_nil, or_false] at hx
    rcases hx with rfl | rfl | rfl
    · obtain rfl := Option.some.inj ((show Tryd.prog.globalNamed "rivulet/api.ErrRange" = some 0 by kernel_rfl).symm.trans hg); kernel_rfl
    · obtain rfl := Option.some.inj ((show Tryd.prog.globalNamed "rivulet/api.ErrMany" = some 5 by kernel_rfl).symm.trans hg); kernel_rfl
    · obtain rfl := Option.some.inj ((show Tryd.prog.globalNamed "rivulet/api.ErrKind" = some 4 by kernel_rfl).symm.trans hg); kernel_rfl
  · intro i hi
    simp only [S, List.mem_cons, List.not_mem_nil, or_false] at hi
    rcases hi with rfl | rfl | rfl
    · exact ⟨("rivulet/api.ErrRange", [97, 32, 110, 117, 109, 98, 101, 114, 32, 111, 117, 116, 32, 111, 102, 32, 105, 116, 115, 32, 114, 97, 110, 103, 101]), by simp [L], by kernel_rfl⟩
    · exact ⟨("rivulet/api.ErrMany", [116, 111, 111, 32, 109, 97, 110, 121]), by simp [L], by kernel_rfl⟩
    · exact ⟨("rivulet/api.ErrKind", [110, 111, 116, 32, 111, 102, 32, 116, 104, 97, 116, 32, 107, 105, 110, 100]), by simp [L], by kernel_rfl⟩

noncomputable def low : Nat := (World.settled Tryd.prog default).heap.size
/-- A world for the witness: the settled one, the listed variables holding what their initialisers lay. -/
noncomputable def laidWorld (os : Os) : World :=
  let w0 := World.holding Tryd.prog os ⟨#[.cells #[.string { data := #[97, 32, 110, 117, 109, 98, 101, 114, 32, 111, 117, 116, 32, 111, 102, 32, 105, 116, 115, 32, 114, 97, 110, 103, 101] }] 130, .cells #[.string { data := #[116, 111, 111, 32, 109, 97, 110, 121] }] 130, .cells #[.string { data := #[110, 111, 116, 32, 111, 102, 32, 116, 104, 97, 116, 32, 107, 105, 110, 100] }] 130], #[], []⟩
  let put (h : Array Obj) (g : Nat) (cs : Array Value) : Array Obj := h.modify g fun
    | .cells _ t frozen => .cells cs t frozen
    | o => o
  { w0 with heap := put (put (put (w0.heap) 0 #[.iface 114 (.pointer (some ⟨low + 0, 0, none⟩))]) 5 #[.iface 114 (.pointer (some ⟨low + 1, 0, none⟩))]) 4 #[.iface 114 (.pointer (some ⟨low + 2, 0, none⟩))] }
theorem laid_met (os : Os) : laidMet Tryd.prog Rows.wireTwinsRow.laid ((laidWorld os).forCall (fun _ _ => 0) ⟨#[], #[.agg #[.int .i64 0, .int .u32 0, .int .u32 0, .int .u32 0, .int .u32 0, .int .i64 0, .int .i64 0, .bool false, .slice none 0 0], .agg #[.int .i64 0, .int .u32 0, .int .u32 0, .int .u32 0, .int .u32 0, .int .i64 0, .int .i64 0, .bool false, .slice none 0 0]], []⟩).memory :=
  laidMet_of_run (ps := [.cell 0 0, .cell (low + 0) 0, .cell 5 0, .cell (low + 1) 0, .cell 4 0, .cell (low + 2) 0]) 8 (by kernel_rfl) (by kernel_rfl) (by kernel_rfl)
theorem witness_row (os : Os) {H : Type} (enc : TypeId × Value → H) :
    (OpenSpec.ofChange Rows.wireTwinsSpec).preRow enc Tryd.prog Tryd.f8 Rows.wireTwinsRow.domain false Rows.wireTwinsRow.laid ((laidWorld os).forCall (fun _ _ => 0) ⟨#[], #[.agg #[.int .i64 0, .int .u32 0, .int .u32 0, .int .u32 0, .int .u32 0, .int .i64 0, .int .i64 0, .bool false, .slice none 0 0], .agg #[.int .i64 0, .int .u32 0, .int .u32 0, .int .u32 0, .int .u32 0, .int .i64 0, .int .i64 0, .bool false, .slice none 0 0]], []⟩).memory #[.agg #[.int .i64 0, .int .u32 0, .int .u32 0, .int .u32 0, .int .u32 0, .int .i64 0, .int .i64 0, .bool false, .slice none 0 0], .agg #[.int .i64 0, .int .u32 0, .int .u32 0, .int .u32 0, .int .u32 0, .int .i64 0, .int .i64 0, .bool false, .slice none 0 0]] := by
  have hw : (DataW.whole enc Tryd.prog ((laidWorld os).forCall (fun _ _ => 0) ⟨#[], #[.agg #[.int .i64 0, .int .u32 0, .int .u32 0, .int .u32 0, .int .u32 0, .int .i64 0, .int .i64 0, .bool false, .slice none 0 0], .agg #[.int .i64 0, .int .u32 0, .int .u32 0, .int .u32 0, .int .u32 0, .int .i64 0, .int .i64 0, .bool false, .slice none 0 0]], []⟩).memory Tryd.f8.params.toList Rows.wireTwinsSpec.vars false (#[.agg #[.int .i64 0, .int .u32 0, .int .u32 0, .int .u32 0, .int .u32 0, .int .i64 0, .int .i64 0, .bool false, .slice none 0 0], .agg #[.int .i64 0, .int .u32 0, .int .u32 0, .int .u32 0, .int .u32 0, .int .i64 0, .int .i64 0, .bool false, .slice none 0 0]] : Array Value).toList 8).map (fun x => (x.1, x.2.1)) =
      some ([.agg [.lit (.int .i64 0), .lit (.int .u32 0), .lit (.int .u32 0), .agg [.lit (.int .u32 0), .lit (.int .u32 0)], .lit (.int .i64 0), .lit (.int .i64 0), .lit (.bool false), .nil], .agg [.lit (.int .i64 0), .lit (.int .u32 0), .lit (.int .u32 0), .agg [.lit (.int .u32 0), .lit (.int .u32 0)], .lit (.int .i64 0), .lit (.int .i64 0), .lit (.bool false), .nil]], []) := by kernel_rfl
  obtain ⟨⟨x1, x2, x3⟩, hx, hx1⟩ := Option.map_eq_some_iff.1 hw
  simp only [Prod.mk.injEq] at hx1
  obtain ⟨rfl, rfl⟩ := hx1
  exact OpenSpec.preRow_of_cond 8 hx (by kernel_rfl) (fun k hk => by cases hk) (by kernel_rfl) (laid_met os)

set_option maxRecDepth 100000 in
theorem contract (H : Type) (enc : TypeId × Value → H) (W : World) (base : Nat) (args : Array Value) (ds gs : List (DataW H)) (before : List MemPlace)
    (hval0 : ∀ (j : Nat) t v, Tryd.f8.params[j]? = some t → args[j]? = some v → Value.okWide Tryd.prog W .any base t v)
    (hW : DataW.Whole enc Tryd.prog Tryd.f8.params.toList Rows.wireTwinsSpec.vars false W args.toList ds gs before) (hL : laidMetH Tryd.prog Rows.wireTwinsRow.laid W) :
    Calls Tryd.prog 8 args W fun e W' => ∃ v, e = .returned v ∧ Rows.wireTwinsSpec.post enc Tryd.prog Tryd.f8 false true false false W args v W' := by
  have hE := errs hL
  clear hL
  have hval : ∀ (j : Nat) t v, Tryd.f8.params[j]? = some t → args[j]? = some v → Value.okWide Tryd.prog W .any base t v := hval0
  have hW' := hW
  obtain ⟨p, q, hA0, hV, rfl, hfz, hnd⟩ := hW
  have hA : DataW.TrodAll enc Tryd.prog W 0 (fun _ => true) true Tryd.f8.params.toList args.toList ds p := hA0
  rw [Tryd.params8] at hA hval
  obtain ⟨v0, vs0, d0, ds0, p0, q0, hargs, rfl, rfl, h0, r0⟩ := trodAll_cons hA
  obtain ⟨v1, vs1, d1, ds1, p1, q1, rfl, rfl, rfl, h1, r1⟩ := trodAll_cons r0
  obtain ⟨rfl, rfl, rfl⟩ := trodAll_nil r1
  obtain rfl : args = #[v0, v1] := by cases args; simp_all
  obtain ⟨rfl, rfl⟩ := trodVars_none hV
  obtain ⟨c0, rfl, _⟩ := okWide_struct Tryd.underlying56 (hval 0 56 v0 rfl rfl)
  have k0 := h0
  have lt0 : ∀ x ∈ p0, x.block < W.heap.size := by obtain ⟨m, hm⟩ := k0; exact DataW.trod_lt m _ _ _ hm
  obtain ⟨x0, hx0, hG0⟩ : ∃ x, c0 = x.m.cells (.slice x.A x.n x.c) ∧ GoodMsg W x := by
    obtain ⟨fuel, hf⟩ := h0
    obtain ⟨x, hK, hG⟩ := opens_msg fuel _ _ hf
    exact ⟨x, by have hq := id hK; apply Array.ext'; simpa [Value.cells] using hq, hG⟩
  subst hx0
  obtain ⟨c1, rfl, _⟩ := okWide_struct Tryd.underlying56 (hval 1 56 v1 rfl rfl)
  have k1 := h1
  have lt1 : ∀ x ∈ p1, x.block < W.heap.size := by obtain ⟨m, hm⟩ := k1; exact DataW.trod_lt m _ _ _ hm
  obtain ⟨x1, hx1, hG1⟩ : ∃ x, c1 = x.m.cells (.slice x.A x.n x.c) ∧ GoodMsg W x := by
    obtain ⟨fuel, hf⟩ := h1
    obtain ⟨x, hK, hG⟩ := opens_msg fuel _ _ hf
    exact ⟨x, by have hq := id hK; apply Array.ext'; simpa [Value.cells] using hq, hG⟩
  subst hx1
  clear hA0 hval0
  refine (wireTwins_all (atV W) x0.m x1.m x0.A x1.A x0.n x1.n x0.c x1.c W (hE.sub (by decide)) hG0.1 hG1.1 hG0.2 hG1.2).mono fun e W' ⟨he, bel⟩ => ?_
  subst he
  exact ⟨_, rfl, _, _, _, [], _, [], hW', trodAll_mk1 (shut_bool Tryd.underlying4 _), (trodAll_cons_mk (Below.trod laidOut (by kernel_rfl) (of_decide_eq_true (by kernel_rfl)) k0 bel lt0) (trodAll_cons_mk (Below.trod laidOut (by kernel_rfl) (of_decide_eq_true (by kernel_rfl)) k1 bel lt1) trodAll_mk0)), rfl, bel.frame _, fun h => by cases h⟩

set_option maxRecDepth 100000 in
theorem lifted (os : Os) (started : os.Started) (H : Type) (enc : TypeId × Value → H) (F : Stop.Interp) :
    ReturnsInHanded {} Tryd.checked os 8 .any ((OpenSpec.ofChange Rows.wireTwinsSpec).preRow enc Tryd.prog Tryd.f8 Rows.wireTwinsRow.domain false Rows.wireTwinsRow.laid) (((OpenSpec.ofChange Rows.wireTwinsSpec).at F).post enc Tryd.prog Tryd.f8 false true false false) := by
  refine returnsInHanded_of_row (C := Tryd.checked) (s := OpenSpec.ofChange Rows.wireTwinsSpec) own started (by kernel_rfl) Tryd.func8
    (witness_row_atRef (enc := enc) (C := Tryd.checked) false (laidWorld os) #[.agg #[.int .i64 0, .int .u32 0, .int .u32 0, .int .u32 0, .int .u32 0, .int .i64 0, .int .i64 0, .bool false, .slice none 0 0], .agg #[.int .i64 0, .int .u32 0, .int .u32 0, .int .u32 0, .int .u32 0, .int .i64 0, .int .i64 0, .bool false, .slice none 0 0]] rfl (by kernel_rfl) (by kernel_rfl) (by kernel_rfl) (witness_row os enc)) ?_
  intro W base args ds gs before hval hW _ _ _ hL _ _
  exact contract H enc W base args ds gs before hval hW hL

theorem said : Rows.WireTwinsSaid :=
  OpenClaim.holds_of_cond 8 Tryd.f8 rfl rfl rfl rfl rfl rfl rfl ⟨rfl, rfl, rfl, rfl, rfl⟩ rfl rfl rfl rfl rfl (by kernel_rfl) Tryd.func8 (by kernel_rfl)
    (of_decide_eq_true (by kernel_rfl)) (by unfold Func.isWrapper; first | (rw [if_pos (by decide +kernel)]; kernel_rfl) | (rw [if_neg (by decide +kernel)]; exact ⟨rfl, rfl⟩))
    (fun os started H enc _ F => by rw [OpenClaim.pre_eq_preRow]; exact lifted os started H enc F)

theorem plain (f : FuncId) (fn : Func) (hf : Tryd.pinned.checked.prog.funcNamed "rivulet/rivuletlaw4.WireTwins" = some f) (hfn : Tryd.pinned.checked.prog.funcs[f]? = some fn) :
    true = Tryd.pinned.checked.prog.looks [] ∧ ∀ (j : Nat) t, fn.params[j]? = some t → Tryd.pinned.checked.prog.wantsStandIn t = false := by
  obtain rfl : f = 8 := Option.some.inj ((show Tryd.prog.funcNamed "rivulet/rivuletlaw4.WireTwins" = some 8 by kernel_rfl).symm.trans hf) |>.symm
  obtain rfl : fn = Tryd.f8 := (Option.some.inj (Tryd.func8.symm.trans hfn)).symm
  refine ⟨by kernel_rfl, fun j t ht => ?_⟩
  rw [Tryd.params8] at ht
  have hm := Array.mem_of_getElem? ht
  simp only [List.mem_toArray, List.mem_cons, List.not_mem_nil, or_false] at hm
  rcases hm with rfl | rfl
  · exact (show Tryd.prog.wantsStandIn 56 = false by kernel_rfl)
  · exact (show Tryd.prog.wantsStandIn 56 = false by kernel_rfl)
theorem card : Rows.WireTwinsCardSaid :=
  Claim7.holds_tied_plain_at .later [] _ _ _ _ said (fun _ h => by cases h) (by kernel_rfl) (fun _ h => by cases h) wireTwins_row_tie rfl ⟨rfl, rfl⟩ (by kernel_rfl) rfl plain (by kernel_rfl)
end Go.Proofs.YtbgbplbkombfjaaDoor.wireTwins
namespace Go.Proofs.YtbgbplbkombfjaaDoor
theorem wireTwins_card : Rows.WireTwinsCardSaid := wireTwins.card
#print axioms wireTwins_card
end Go.Proofs.YtbgbplbkombfjaaDoor
