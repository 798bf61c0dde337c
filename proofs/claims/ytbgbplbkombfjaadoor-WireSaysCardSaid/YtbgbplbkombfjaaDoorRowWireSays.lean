/-
  'rivulet/rivuletlaw4.WireSays': it returns true for every input; package api's errors as the program's text lays them (the card ties them), no other condition.
  The frame after the kit's UptoLaidToy and proof-skeleton; the walk out of this seat's own texts.
-/
import Derived.Test.YtbgbplbkombfjaaDoorLawWireSays
import Derived.Test.YtbgbplbkombfjaaDoorRowMsg
import Derived.Test.YtbgbplbkombfjaaDoorCards
import Derived.Test.YtbgbplbkombfjaaDoorTie
import Derived.Test.YtbgbplbkombfjaaDoorLaid
import Derived.Test.YtbgbplbkombfjaaDoorOpens
import Derived.WalkKit
import Derived.ProofKit
import Derived.OpenShut
import Derived.ShutString
import Derived.ChangeOld
import Derived.Below
import Derived.Deep.DeepHandedRow
import Derived.Deep.DeepWitnessRowRef
import Derived.Lib.LaidTab
namespace Go.Proofs.YtbgbplbkombfjaaDoor.wireSays
open Go.ChangeShapes Go.WideShapes Go.ChangeAt Go.RowKit Go.Proofs.YtbgbplbkombfjaaDoorW.PrintWords
open Go.ChangeMaps (open_string shut_string)
set_option linter.unusedVariables false
set_option linter.unusedSimpArgs false

theorem own : ownKnob Tryd.prog.godebug = none := by kernel_rfl
theorem laidOut : laidOutB Tryd.prog = true := by kernel_rfl
def L : List (String × List UInt8) := [("rivulet/api.ErrEnd", [105, 116, 32, 101, 110, 100, 115, 32, 116, 111, 111, 32, 101, 97, 114, 108, 121]), ("rivulet/api.ErrShape", [110, 111, 116, 32, 97, 115, 32, 105, 116, 32, 104, 97, 115, 32, 116, 111, 32, 98, 101]), ("rivulet/api.ErrRange", [97, 32, 110, 117, 109, 98, 101, 114, 32, 111, 117, 116, 32, 111, 102, 32, 105, 116, 115, 32, 114, 97, 110, 103, 101]), ("rivulet/api.ErrMany", [116, 111, 111, 32, 109, 97, 110, 121]), ("rivulet/api.ErrSum", [116, 104, 101, 32, 115, 117, 109, 32, 105, 115, 32, 97, 110, 111, 116, 104, 101, 114, 32, 111, 110, 101]), ("rivulet/api.ErrWord", [110, 111, 32, 115, 117, 99, 104, 32, 119, 111, 114, 100]), ("rivulet/api.ErrNumber", [110, 111, 116, 32, 97, 32, 110, 117, 109, 98, 101, 114]), ("rivulet/api.ErrAddr", [110, 111, 116, 32, 97, 110, 32, 97, 100, 100, 114, 101, 115, 115]), ("rivulet/api.ErrName", [110, 111, 116, 32, 97, 32, 110, 97, 109, 101]), ("rivulet/api.ErrTwice", [116, 104, 101, 114, 101, 32, 105, 115, 32, 111, 110, 101]), ("rivulet/api.ErrNone", [116, 104, 101, 114, 101, 32, 105, 115, 32, 110, 111, 110, 101]), ("rivulet/api.ErrAway", [110, 111, 116, 32, 111, 110, 32, 116, 104, 97, 116, 32, 108, 105, 110, 107]), ("rivulet/api.ErrKind", [110, 111, 116, 32, 111, 102, 32, 116, 104, 97, 116, 32, 107, 105, 110, 100]), ("rivulet/api.ErrDeep", [116, 111, 111, 32, 109, 97, 110, 121, 32, 98, 101, 104, 105, 110, 100, 32, 111, 110, 101, 32, 97, 110, 111, 116, 104, 101, 114])]
def S : List Nat := [1, 2, 0, 5, 3, 6, 7, 8, 9, 10, 11, 12, 4, 13]
theorem errs {W : World} (hL : laidMetH Tryd.prog Rows.wireSaysRow.laid W) : Errs S (atV W) W := by
  have h1 : laidMet Tryd.prog Rows.wireSaysRow.laid W := by
    rw [Go.MakeChecks.laidMetH_plain _ _ _ (by kernel_rfl)] at hL
    exact hL
  have h2 : laidMet Tryd.prog (L.map sent) W := h1
  refine errs_of L S h2 ?_ ?_
  · intro x hx g hg
    simp only [L, List.mem_cons, List.not_mem_nil, or_false] at hx
    rcases hx with rfl | rfl | rfl | rfl | rfl | rfl | rfl | rfl | rfl | rfl | rfl | rfl | rfl | rfl
    · obtain rfl := Option.some.inj ((show Tryd.prog.globalNamed "rivulet/api.ErrEnd" = some 1 by kernel_rfl).symm.trans hg); kernel_rfl
    · obtain rfl := Option.some.inj ((show Tryd.prog.globalNamed "rivulet/api.ErrShape" = some 2 by kernel_rfl).symm.trans hg); kernel_rfl
    · obtain rfl := Option.some.inj ((show Tryd.prog.globalNamed "rivulet/api.ErrRange" = some 0 by kernel_rfl).symm.trans hg); kernel_rfl
    · obtain rfl := Option.some.inj ((show Tryd.prog.globalNamed "rivulet/api.ErrMany" = some 5 by kernel_rfl).symm.trans hg); kernel_rfl
    · obtain rfl := Option.some.inj ((show Tryd.prog.globalNamed "rivulet/api.ErrSum" = some 3 by kernel_rfl).symm.trans hg); kernel_rfl
    · obtain rfl := Option.some.inj ((show Tryd.prog.globalNamed "rivulet/api.ErrWord" = some 6 by kernel_rfl).symm.trans hg); kernel_rfl
    · obtain rfl := Option.some.inj ((show Tryd.prog.globalNamed "rivulet/api.ErrNumber" = some 7 by kernel_rfl).symm.trans hg); kernel_rfl
    · obtain rfl := Option.some.inj ((show Tryd.prog.globalNamed "rivulet/api.ErrAddr" = some 8 by kernel_rfl).symm.trans hg); kernel_rfl
    · obtain rfl := Option.some.inj ((show Tryd.prog.globalNamed "rivulet/api.ErrName" = some 9 by kernel_rfl).symm.trans hg); kernel_rfl
    · obtain rfl := Option.some.inj ((show Tryd.prog.globalNamed "rivulet/api.ErrTwice" = some 10 by kernel_rfl).symm.trans hg); kernel_rfl
    · obtain rfl := Option.some.inj ((show Tryd.prog.globalNamed "rivulet/api.ErrNone" = some 11 by kernel_rfl).symm.trans hg); kernel_rfl
    · obtain rfl := Option.some.inj ((show Tryd.prog.globalNamed "rivulet/api.ErrAway" = some 12 by kernel_rfl).symm.trans hg); kernel_rfl
    · obtain rfl := Option.some.inj ((show Tryd.prog.globalNamed "rivulet/api.ErrKind" = some 4 by kernel_rfl).symm.trans hg); kernel_rfl
    · obtain rfl := Option.some.inj ((show Tryd.prog.globalNamed "rivulet/api.ErrDeep" = some 13 by kernel_rfl).symm.trans hg); kernel_rfl
  · intro i hi
    simp only [S, List.mem_cons, List.not_mem_nil, or_false] at hi
    rcases hi with rfl | rfl | rfl | rfl | rfl | rfl | rfl | rfl | rfl | rfl | rfl | rfl | rfl | rfl
    · exact ⟨("rivulet/api.ErrEnd", [105, 116, 32, 101, 110, 100, 115, 32, 116, 111, 111, 32, 101, 97, 114, 108, 121]), by simp [L], by kernel_rfl⟩
    · exact ⟨("rivulet/api.ErrShape", [110, 111, 116, 32, 97, 115, 32, 105, 116, 32, 104, 97, 115, 32, 116, 111, 32, 98, 101]), by simp [L], by kernel_rfl⟩
    · exact ⟨("rivulet/api.ErrRange", [97, 32, 110, 117, 109, 98, 101, 114, 32, 111, 117, 116, 32, 111, 102, 32, 105, 116, 115, 32, 114, 97, 110, 103, 101]), by simp [L], by kernel_rfl⟩
    · exact ⟨("rivulet/api.ErrMany", [116, 111, 111, 32, 109, 97, 110, 121]), by simp [L], by kernel_rfl⟩
    · exact ⟨("rivulet/api.ErrSum", [116, 104, 101, 32, 115, 117, 109, 32, 105, 115, 32, 97, 110, 111, 116, 104, 101, 114, 32, 111, 110, 101]), by simp [L], by kernel_rfl⟩
    · exact ⟨("rivulet/api.ErrWord", [110, 111, 32, 115, 117, 99, 104, 32, 119, 111, 114, 100]), by simp [L], by kernel_rfl⟩
    · exact ⟨("rivulet/api.ErrNumber", [110, 111, 116, 32, 97, 32, 110, 117, 109, 98, 101, 114]), by simp [L], by kernel_rfl⟩
    · exact ⟨("rivulet/api.ErrAddr", [110, 111, 116, 32, 97, 110, 32, 97, 100, 100, 114, 101, 115, 115]), by simp [L], by kernel_rfl⟩
    · exact ⟨("rivulet/api.ErrName", [110, 111, 116, 32, 97, 32, 110, 97, 109, 101]), by simp [L], by kernel_rfl⟩
    · exact ⟨("rivulet/api.ErrTwice", [116, 104, 101, 114, 101, 32, 105, 115, 32, 111, 110, 101]), by simp [L], by kernel_rfl⟩
    · exact ⟨("rivulet/api.ErrNone", [116, 104, 101, 114, 101, 32, 105, 115, 32, 110, 111, 110, 101]), by simp [L], by kernel_rfl⟩
    · exact ⟨("rivulet/api.ErrAway", [110, 111, 116, 32, 111, 110, 32, 116, 104, 97, 116, 32, 108, 105, 110, 107]), by simp [L], by kernel_rfl⟩
    · exact ⟨("rivulet/api.ErrKind", [110, 111, 116, 32, 111, 102, 32, 116, 104, 97, 116, 32, 107, 105, 110, 100]), by simp [L], by kernel_rfl⟩
    · exact ⟨("rivulet/api.ErrDeep", [116, 111, 111, 32, 109, 97, 110, 121, 32, 98, 101, 104, 105, 110, 100, 32, 111, 110, 101, 32, 97, 110, 111, 116, 104, 101, 114]), by simp [L], by kernel_rfl⟩

noncomputable def low : Nat := (World.settled Tryd.prog default).heap.size
/-- A world for the witness: the settled one, the listed variables holding what their initialisers lay. -/
noncomputable def laidWorld (os : Os) : World :=
  let w0 := World.holding Tryd.prog os ⟨#[.cells #[.string { data := #[105, 116, 32, 101, 110, 100, 115, 32, 116, 111, 111, 32, 101, 97, 114, 108, 121] }] 130, .cells #[.string { data := #[110, 111, 116, 32, 97, 115, 32, 105, 116, 32, 104, 97, 115, 32, 116, 111, 32, 98, 101] }] 130, .cells #[.string { data := #[97, 32, 110, 117, 109, 98, 101, 114, 32, 111, 117, 116, 32, 111, 102, 32, 105, 116, 115, 32, 114, 97, 110, 103, 101] }] 130, .cells #[.string { data := #[116, 111, 111, 32, 109, 97, 110, 121] }] 130, .cells #[.string { data := #[116, 104, 101, 32, 115, 117, 109, 32, 105, 115, 32, 97, 110, 111, 116, 104, 101, 114, 32, 111, 110, 101] }] 130, .cells #[.string { data := #[110, 111, 32, 115, 117, 99, 104, 32, 119, 111, 114, 100] }] 130, .cells #[.string { data := #[110, 111, 116, 32, 97, 32, 110, 117, 109, 98, 101, 114] }] 130, .cells #[.string { data := #[110, 111, 116, 32, 97, 110, 32, 97, 100, 100, 114, 101, 115, 115] }] 130, .cells #[.string { data := #[110, 111, 116, 32, 97, 32, 110, 97, 109, 101] }] 130, .cells #[.string { data := #[116, 104, 101, 114, 101, 32, 105, 115, 32, 111, 110, 101] }] 130, .cells #[.string { data := #[116, 104, 101, 114, 101, 32, 105, 115, 32, 110, 111, 110, 101] }] 130, .cells #[.string { data := #[110, 111, 116, 32, 111, 110, 32, 116, 104, 97, 116, 32, 108, 105, 110, 107] }] 130, .cells #[.string { data := #[110, 111, 116, 32, 111, 102, 32, 116, 104, 97, 116, 32, 107, 105, 110, 100] }] 130, .cells #[.string { data := #[116, 111, 111, 32, 109, 97, 110, 121, 32, 98, 101, 104, 105, 110, 100, 32, 111, 110, 101, 32, 97, 110, 111, 116, 104, 101, 114] }] 130], #[], []⟩
  let put (h : Array Obj) (g : Nat) (cs : Array Value) : Array Obj := h.modify g fun
    | .cells _ t frozen => .cells cs t frozen
    | o => o
  { w0 with heap := put (put (put (put (put (put (put (put (put (put (put (put (put (put (w0.heap) 1 #[.iface 114 (.pointer (some ⟨low + 0, 0, none⟩))]) 2 #[.iface 114 (.pointer (some ⟨low + 1, 0, none⟩))]) 0 #[.iface 114 (.pointer (some ⟨low + 2, 0, none⟩))]) 5 #[.iface 114 (.pointer (some ⟨low + 3, 0, none⟩))]) 3 #[.iface 114 (.pointer (some ⟨low + 4, 0, none⟩))]) 6 #[.iface 114 (.pointer (some ⟨low + 5, 0, none⟩))]) 7 #[.iface 114 (.pointer (some ⟨low + 6, 0, none⟩))]) 8 #[.iface 114 (.pointer (some ⟨low + 7, 0, none⟩))]) 9 #[.iface 114 (.pointer (some ⟨low + 8, 0, none⟩))]) 10 #[.iface 114 (.pointer (some ⟨low + 9, 0, none⟩))]) 11 #[.iface 114 (.pointer (some ⟨low + 10, 0, none⟩))]) 12 #[.iface 114 (.pointer (some ⟨low + 11, 0, none⟩))]) 4 #[.iface 114 (.pointer (some ⟨low + 12, 0, none⟩))]) 13 #[.iface 114 (.pointer (some ⟨low + 13, 0, none⟩))] }
theorem laid_met (os : Os) : laidMet Tryd.prog Rows.wireSaysRow.laid ((laidWorld os).forCall (fun _ _ => 0) ⟨#[], #[.agg #[.int .i64 0, .int .u32 0, .int .u32 0, .int .u32 0, .int .u32 0, .int .i64 0, .int .i64 0, .bool false, .slice none 0 0], .agg #[.int .i64 0, .int .u32 0, .int .u32 0, .int .u32 0, .int .u32 0, .int .i64 0, .int .i64 0, .bool false, .slice none 0 0], .slice none 0 0], []⟩).memory :=
  laidMet_of_run (ps := [.cell 1 0, .cell (low + 0) 0, .cell 2 0, .cell (low + 1) 0, .cell 0 0, .cell (low + 2) 0, .cell 5 0, .cell (low + 3) 0, .cell 3 0, .cell (low + 4) 0, .cell 6 0, .cell (low + 5) 0, .cell 7 0, .cell (low + 6) 0, .cell 8 0, .cell (low + 7) 0, .cell 9 0, .cell (low + 8) 0, .cell 10 0, .cell (low + 9) 0, .cell 11 0, .cell (low + 10) 0, .cell 12 0, .cell (low + 11) 0, .cell 4 0, .cell (low + 12) 0, .cell 13 0, .cell (low + 13) 0]) 8 (by kernel_rfl) (by kernel_rfl) (by kernel_rfl)
theorem witness_row (os : Os) {H : Type} (enc : TypeId × Value → H) :
    (OpenSpec.ofChange Rows.wireSaysSpec).preRow enc Tryd.prog Tryd.f9 Rows.wireSaysRow.domain false Rows.wireSaysRow.laid ((laidWorld os).forCall (fun _ _ => 0) ⟨#[], #[.agg #[.int .i64 0, .int .u32 0, .int .u32 0, .int .u32 0, .int .u32 0, .int .i64 0, .int .i64 0, .bool false, .slice none 0 0], .agg #[.int .i64 0, .int .u32 0, .int .u32 0, .int .u32 0, .int .u32 0, .int .i64 0, .int .i64 0, .bool false, .slice none 0 0], .slice none 0 0], []⟩).memory #[.agg #[.int .i64 0, .int .u32 0, .int .u32 0, .int .u32 0, .int .u32 0, .int .i64 0, .int .i64 0, .bool false, .slice none 0 0], .agg #[.int .i64 0, .int .u32 0, .int .u32 0, .int .u32 0, .int .u32 0, .int .i64 0, .int .i64 0, .bool false, .slice none 0 0], .slice none 0 0] := by
  have hw : (DataW.whole enc Tryd.prog ((laidWorld os).forCall (fun _ _ => 0) ⟨#[], #[.agg #[.int .i64 0, .int .u32 0, .int .u32 0, .int .u32 0, .int .u32 0, .int .i64 0, .int .i64 0, .bool false, .slice none 0 0], .agg #[.int .i64 0, .int .u32 0, .int .u32 0, .int .u32 0, .int .u32 0, .int .i64 0, .int .i64 0, .bool false, .slice none 0 0], .slice none 0 0], []⟩).memory Tryd.f9.params.toList Rows.wireSaysSpec.vars false (#[.agg #[.int .i64 0, .int .u32 0, .int .u32 0, .int .u32 0, .int .u32 0, .int .i64 0, .int .i64 0, .bool false, .slice none 0 0], .agg #[.int .i64 0, .int .u32 0, .int .u32 0, .int .u32 0, .int .u32 0, .int .i64 0, .int .i64 0, .bool false, .slice none 0 0], .slice none 0 0] : Array Value).toList 8).map (fun x => (x.1, x.2.1)) =
      some ([.agg [.lit (.int .i64 0), .lit (.int .u32 0), .lit (.int .u32 0), .agg [.lit (.int .u32 0), .lit (.int .u32 0)], .lit (.int .i64 0), .lit (.int .i64 0), .lit (.bool false), .nil], .agg [.lit (.int .i64 0), .lit (.int .u32 0), .lit (.int .u32 0), .agg [.lit (.int .u32 0), .lit (.int .u32 0)], .lit (.int .i64 0), .lit (.int .i64 0), .lit (.bool false), .nil], .nil], []) := by kernel_rfl
  obtain ⟨⟨x1, x2, x3⟩, hx, hx1⟩ := Option.map_eq_some_iff.1 hw
  simp only [Prod.mk.injEq] at hx1
  obtain ⟨rfl, rfl⟩ := hx1
  exact OpenSpec.preRow_of_cond 8 hx (by kernel_rfl) (fun k hk => by cases hk) (by kernel_rfl) (laid_met os)

set_option maxRecDepth 100000 in
theorem contract (H : Type) (enc : TypeId × Value → H) (W : World) (base : Nat) (args : Array Value) (ds gs : List (DataW H)) (before : List MemPlace)
    (hval0 : ∀ (j : Nat) t v, Tryd.f9.params[j]? = some t → args[j]? = some v → Value.okWide Tryd.prog W .any base t v)
    (hW : DataW.Whole enc Tryd.prog Tryd.f9.params.toList Rows.wireSaysSpec.vars false W args.toList ds gs before) (hL : laidMetH Tryd.prog Rows.wireSaysRow.laid W) :
    Calls Tryd.prog 9 args W fun e W' => ∃ v, e = .returned v ∧ Rows.wireSaysSpec.post enc Tryd.prog Tryd.f9 false true false false W args v W' := by
  have hE := errs hL
  clear hL
  have hval : ∀ (j : Nat) t v, Tryd.f9.params[j]? = some t → args[j]? = some v → Value.okWide Tryd.prog W .any base t v := hval0
  have hW' := hW
  obtain ⟨p, q, hA0, hV, rfl, hfz, hnd⟩ := hW
  have hA : DataW.TrodAll enc Tryd.prog W 0 (fun _ => true) true Tryd.f9.params.toList args.toList ds p := hA0
  rw [Tryd.params9] at hA hval
  obtain ⟨v0, vs0, d0, ds0, p0, q0, hargs, rfl, rfl, h0, r0⟩ := trodAll_cons hA
  obtain ⟨v1, vs1, d1, ds1, p1, q1, rfl, rfl, rfl, h1, r1⟩ := trodAll_cons r0
  obtain ⟨v2, vs2, d2, ds2, p2, q2, rfl, rfl, rfl, h2, r2⟩ := trodAll_cons r1
  obtain ⟨rfl, rfl, rfl⟩ := trodAll_nil r2
  obtain rfl : args = #[v0, v1, v2] := by cases args; simp_all
  obtain ⟨rfl, rfl⟩ := trodVars_none hV
  obtain ⟨c0, rfl, _⟩ := okWide_struct Tryd.underlying56 (hval 0 56 v0 rfl rfl)
  have k0 := h0
  have lt0 : ∀ x ∈ p0, x.block < W.heap.size := by obtain ⟨m, hm⟩ := k0; exact DataW.trod_lt m _ _ _ hm
  obtain ⟨x0, hx0, hG0⟩ : ∃ x, c0 = x.m.cells (.slice x.A x.n x.c) ∧ GoodMsg W x := by
    obtain ⟨fuel, hf⟩ := h0
    obtain ⟨x, hK, hG⟩ := opens_msg fuel _ _ hf
    exact ⟨x, by have hq := id hK; apply Array.ext'; simpa [Value.cells] using hq, hG⟩
  subst hx0
  obtain ⟨c1, rfl, _⟩ := okWide_struct Tryd.underlying56 (hval 1 56 v1 rfl rfl)
  have k1 := h1
  have lt1 : ∀ x ∈ p1, x.block < W.heap.size := by obtain ⟨m, hm⟩ := k1; exact DataW.trod_lt m _ _ _ hm
  obtain ⟨x1, hx1, hG1⟩ : ∃ x, c1 = x.m.cells (.slice x.A x.n x.c) ∧ GoodMsg W x := by
    obtain ⟨fuel, hf⟩ := h1
    obtain ⟨x, hK, hG⟩ := opens_msg fuel _ _ hf
    exact ⟨x, by have hq := id hK; apply Array.ext'; simpa [Value.cells] using hq, hG⟩
  subst hx1
  obtain ⟨A2, n2, c2, rfl⟩ := okWide_slice Tryd.underlying26 (hval 2 26 v2 rfl rfl)
  have k2 := h2
  have lt2 : ∀ x ∈ p2, x.block < W.heap.size := by obtain ⟨m, hm⟩ := k2; exact DataW.trod_lt m _ _ _ hm
  obtain ⟨l2, hle2, hC2, hG2⟩ : ∃ l, n2 ≤ c2 ∧ Kd.C (Kd.int .u8) W A2 n2 l ∧ GoodBytes l := by
    obtain ⟨fuel, hf⟩ := h2
    obtain ⟨l, ⟨A', c', hcs, hle, hC⟩, hG⟩ := opens_bytes fuel _ _ hf
    simp [Value.cells] at hcs
    obtain ⟨rfl, rfl, rfl⟩ := hcs
    exact ⟨l, hle, hC, hG⟩
  clear hA0 hval0
  refine (wireSays_all (atV W) x0.m x1.m x0.A x1.A A2 x0.n x1.n n2 x0.c x1.c c2 l2 W hE hG0.1 hG1.1 hG0.2 hG1.2 hC2 hG2 hle2).mono fun e W' ⟨he, bel⟩ => ?_
  subst he
  exact ⟨_, rfl, _, _, _, [], _, [], hW', trodAll_mk1 (shut_bool Tryd.underlying4 _), (trodAll_cons_mk (Below.trod laidOut (by kernel_rfl) (of_decide_eq_true (by kernel_rfl)) k0 bel lt0) (trodAll_cons_mk (Below.trod laidOut (by kernel_rfl) (of_decide_eq_true (by kernel_rfl)) k1 bel lt1) (trodAll_cons_mk (Below.trod laidOut (by kernel_rfl) (of_decide_eq_true (by kernel_rfl)) k2 bel lt2) trodAll_mk0))), rfl, bel.frame _, fun h => by cases h⟩

set_option maxRecDepth 100000 in
theorem lifted (os : Os) (started : os.Started) (H : Type) (enc : TypeId × Value → H) (F : Stop.Interp) :
    ReturnsInHanded {} Tryd.checked os 9 .any ((OpenSpec.ofChange Rows.wireSaysSpec).preRow enc Tryd.prog Tryd.f9 Rows.wireSaysRow.domain false Rows.wireSaysRow.laid) (((OpenSpec.ofChange Rows.wireSaysSpec).at F).post enc Tryd.prog Tryd.f9 false true false false) := by
  refine returnsInHanded_of_row (C := Tryd.checked) (s := OpenSpec.ofChange Rows.wireSaysSpec) own started (by kernel_rfl) Tryd.func9
    (witness_row_atRef (enc := enc) (C := Tryd.checked) false (laidWorld os) #[.agg #[.int .i64 0, .int .u32 0, .int .u32 0, .int .u32 0, .int .u32 0, .int .i64 0, .int .i64 0, .bool false, .slice none 0 0], .agg #[.int .i64 0, .int .u32 0, .int .u32 0, .int .u32 0, .int .u32 0, .int .i64 0, .int .i64 0, .bool false, .slice none 0 0], .slice none 0 0] rfl (by kernel_rfl) (by kernel_rfl) (by kernel_rfl) (witness_row os enc)) ?_
  intro W base args ds gs before hval hW _ _ _ hL _ _
  exact contract H enc W base args ds gs before hval hW hL

theorem said : Rows.WireSaysSaid :=
  OpenClaim.holds_of_cond 9 Tryd.f9 rfl rfl rfl rfl rfl rfl rfl ⟨rfl, rfl, rfl, rfl, rfl⟩ rfl rfl rfl rfl rfl (by kernel_rfl) Tryd.func9 (by kernel_rfl)
    (of_decide_eq_true (by kernel_rfl)) (by unfold Func.isWrapper; first | (rw [if_pos (by decide +kernel)]; kernel_rfl) | (rw [if_neg (by decide +kernel)]; exact ⟨rfl, rfl⟩))
    (fun os started H enc _ F => by rw [OpenClaim.pre_eq_preRow]; exact lifted os started H enc F)

theorem plain (f : FuncId) (fn : Func) (hf : Tryd.pinned.checked.prog.funcNamed "rivulet/rivuletlaw4.WireSays" = some f) (hfn : Tryd.pinned.checked.prog.funcs[f]? = some fn) :
    true = Tryd.pinned.checked.prog.looks [] ∧ ∀ (j : Nat) t, fn.params[j]? = some t → Tryd.pinned.checked.prog.wantsStandIn t = false := by
  obtain rfl : f = 9 := Option.some.inj ((show Tryd.prog.funcNamed "rivulet/rivuletlaw4.WireSays" = some 9 by kernel_rfl).symm.trans hf) |>.symm
  obtain rfl : fn = Tryd.f9 := (Option.some.inj (Tryd.func9.symm.trans hfn)).symm
  refine ⟨by kernel_rfl, fun j t ht => ?_⟩
  rw [Tryd.params9] at ht
  have hm := Array.mem_of_getElem? ht
  simp only [List.mem_toArray, List.mem_cons, List.not_mem_nil, or_false] at hm
  rcases hm with rfl | rfl | rfl
  · exact (show Tryd.prog.wantsStandIn 56 = false by kernel_rfl)
  · exact (show Tryd.prog.wantsStandIn 56 = false by kernel_rfl)
  · exact (show Tryd.prog.wantsStandIn 26 = false by kernel_rfl)
theorem card : Rows.WireSaysCardSaid :=
  Claim7.holds_tied_plain_at .later [] _ _ _ _ said (fun _ h => by cases h) (by kernel_rfl) (fun _ h => by cases h) wireSays_row_tie rfl ⟨rfl, rfl⟩ (by kernel_rfl) rfl plain (by kernel_rfl)
end Go.Proofs.YtbgbplbkombfjaaDoor.wireSays
namespace Go.Proofs.YtbgbplbkombfjaaDoor
theorem wireSays_card : Rows.WireSaysCardSaid := wireSays.card
#print axioms wireSays_card
end Go.Proofs.YtbgbplbkombfjaaDoor
