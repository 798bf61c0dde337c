-- PRINTED BY print.sh 35421559b90ae4d0a3588c463048766b98c2df88dd9212a6774a882060cdf62d: not written by this session
import Derived.Test.YtjcihhkeehjgdaaProg
import Derived.Below
import Derived.Deep.Draws
import Derived.Deep.AppendLies
import Derived.Maps.AppendAt
import Derived.OwnWalk
import Derived.Laws.BytesArg
import Derived.Laws.MakeOwn
import Derived.Laws.OwnMore
import Derived.Deep.OwnRows
import Derived.Tactics
import Derived.Lib.ConvBytes
import Derived.Laws.Slices
import Derived.WalkKit
import Derived.KernelRfl
import Derived.RowKit3
import Derived.Deep.LoopGhost
import Derived.Deep.QuietTactic
import Derived.BigQuiet
import Derived.WideLaws
import Derived.Deep.DeepCutAuto
import Derived.Deep.CutBlock
import Derived.Deep.RegionHeld3
import Derived.Laws.Rows
import Derived.Lib.AppendStr
import Derived.ArgAppend
import Derived.Laws.IdiomCopy
import Derived.OrdersHeld
import Derived.Laws.BitsLemmas
import Derived.RowKit
import Derived.Test.YtjcihhkeehjgdaaWWords
import Derived.Test.YtjcihhkeehjgdaaWLast
import Derived.Test.YtjcihhkeehjgdaaWTab
import Derived.Test.YtjcihhkeehjgdaaWFour
import Derived.Test.YtjcihhkeehjgdaaWQPut
import Derived.Test.YtjcihhkeehjgdaaWApart
import Derived.Test.YtjcihhkeehjgdaaWArr
import Derived.Test.YtjcihhkeehjgdaaWZeros
import Derived.Test.YtjcihhkeehjgdaaWFoot
import Derived.Test.YtjcihhkeehjgdaaWKept
import Derived.Test.YtjcihhkeehjgdaaWShare
import Derived.Test.YtjcihhkeehjgdaaWN
import Derived.Test.YtjcihhkeehjgdaaWFootNe
import Derived.Test.YtjcihhkeehjgdaaWAt
import Derived.Test.YtjcihhkeehjgdaaWEqStruct
import Derived.Test.YtjcihhkeehjgdaaWRepsOne
import Derived.Test.YtjcihhkeehjgdaaWInv
import Derived.Test.YtjcihhkeehjgdaaWInvWords
import Derived.Test.YtjcihhkeehjgdaaWGuard
import Derived.Test.YtjcihhkeehjgdaaWNEv
import Derived.Test.YtjcihhkeehjgdaaWMore
namespace Go.Proofs.Ytjcihhkeehjgdaa.PFwdSays
open Go.RowKit Go.Proofs.YtjcihhkeehjgdaaW.PrintWords Go.Proofs.YtjcihhkeehjgdaaW.PrintLast Go.Proofs.YtjcihhkeehjgdaaW.PrintMore
attribute [local go_sem] max2_int min2_int max_two min_two max_three min_three max_four min_four   -- for this text's walks alone
set_option linter.unusedVariables false
set_option linter.unusedSimpArgs false



def errW : Option Int → Value
  | none => .nilIface
  | some c => .iface 0 (.int .i64 c)
theorem errW_none : errW none = .nilIface := rfl
theorem errW_some (c : Int) : errW (some c) = .iface 0 (.int .i64 c) := rfl

theorem info3 : (Try.prog.info? 3).map (fun i => (i.zero, i.size, i.bytes)) = some (some (.int .i64 0), 1, 8) := by kernel_rfl
theorem info104 : (Try.prog.info? 104).map (fun i => (i.zero, i.size, i.bytes)) = some (some (.agg #[(.int .i64 0), (.int .i64 0), (.int .i64 0), (.int .u32 0), (.int .u32 0), (.slice none 0 0)]), 6, 56) := by kernel_rfl
theorem info106 : (Try.prog.info? 106).map (fun i => (i.zero, i.size, i.bytes)) = some (some (.agg #[(.int .i64 0), (.int .u32 0), (.int .u32 0)]), 3, 16) := by kernel_rfl
-- the values' own types
/-! #### struct type 69 -/
structure S69 where
  f0 : Int
  f1 : Int
def z69 : S69 := ⟨(0 : Int), (0 : Int)⟩
def k69 : Kd S69 := Kd.iso (Kd.pair (Kd.int .u32) (Kd.int .u32)) (fun x : S69 => (x.f0, x.f1))
theorem k69_open {w : World} {x : S69} {cs : List Value} (h : k69.K w x cs) : cs = [.int .u32 x.f0, .int .u32 x.f1] := by
  obtain ⟨_, _, rfl, rfl, rfl⟩ := h
  exact rfl
theorem k69_openM {w : World} {base : Nat} {ok : Nat → Prop} {x : S69} {cs : List Value} (h : k69.M w base ok x cs) : cs = [.int .u32 x.f0, .int .u32 x.f1] := by
  obtain ⟨_, _, rfl, rfl, rfl⟩ := h
  exact rfl
theorem k69_mk (w : World) (x : S69)  : k69.K w x [.int .u32 x.f0, .int .u32 x.f1] := ⟨[.int .u32 x.f0], [.int .u32 x.f1], rfl, rfl, rfl⟩
theorem k69_mkM (w : World) (base : Nat) (ok : Nat → Prop) (x : S69)  : k69.M w base ok x [.int .u32 x.f0, .int .u32 x.f1] := ⟨[.int .u32 x.f0], [.int .u32 x.f1], rfl, rfl, rfl⟩
theorem k69_mkF (W : World) (ok : Nat → Prop) (x : S69) : Kd.FK k69 W ok x [.int .u32 x.f0, .int .u32 x.f1] := fun W2 _ => k69_mk W2 x
def rd_T69 (xs : List S69) (i : Int) : S69 := xs.getD i.toNat z69
theorem at_T69 {w : World} {A : Option Addr} {n : Nat} {xs : List S69} (h : Kd.C k69 w A n xs) (i : Int) (h0 : 0 ≤ i) (h1 : i < n) : ∃ ad , A = some ad ∧ w.cell? (ad.add (i.toNat * 2)) = some (.int .u32 (rd_T69 xs i).f0) ∧ w.cell? ⟨(ad.add (i.toNat * 2)).block, (ad.add (i.toNat * 2)).off + 1, none⟩ = some (.int .u32 (rd_T69 xs i).f1) := by
  obtain ⟨ad, c, e, _, hK, hc0⟩ := Kd.C_get h z69 i h0 h1
  have hc : ∀ j u, c[j]? = some u → w.cell? (ad.add (i.toNat * 2 + j)) = some u := hc0
  obtain rfl := k69_open hK
  exact ⟨ad, e, hc 0 _ rfl, by rw [← add_field _ _ 1 (by omega)]; exact hc 1 _ rfl⟩

def rd_L3 (xs : List (List Int)) (i : Int) : (List Int) := xs.getD i.toNat ([] : List Int)
theorem at_L3 {w : World} {A : Option Addr} {n : Nat} {xs : List (List Int)} (h : Kd.C (Kd.slice 3 (Kd.int .i64)) w A n xs) (i : Int) (h0 : 0 ≤ i) (h1 : i < n) : ∃ ad A0 c0, A = some ad ∧ w.cell? (ad.add i.toNat) = some (.slice A0 (rd_L3 xs i).length c0) ∧ (rd_L3 xs i).length ≤ c0 ∧ (Kd.int .i64).C w A0 (rd_L3 xs i).length (rd_L3 xs i) := by
  obtain ⟨ad, c, e, _, hK, hc0⟩ := Kd.C_get h ([] : List Int) i h0 h1
  have hc : ∀ j u, c[j]? = some u → w.cell? (ad.add (i.toNat * 1 + j)) = some u := hc0
  obtain ⟨A0, c0, rfl, l0, g0⟩ := hK
  exact ⟨ad, A0, c0, e, by have hq := hc 0 _ rfl; rwa [Nat.mul_one, Nat.add_zero] at hq, l0, g0⟩

/-! #### struct type 78 -/
structure S78 where
  f0 : Int
  f1 : Int
  f2 : Int
  f3 : S69
  f4 : (List Int)
def z78 : S78 := ⟨(0 : Int), (0 : Int), (0 : Int), z69, ([] : List Int)⟩
def k78 : Kd S78 := Kd.iso (Kd.pair (Kd.int .i64) (Kd.pair (Kd.int .i64) (Kd.pair (Kd.int .i64) (Kd.pair k69 (Kd.slice 3 (Kd.int .i64)))))) (fun x : S78 => (x.f0, x.f1, x.f2, x.f3, x.f4))
theorem k78_open {w : World} {x : S78} {cs : List Value} (h : k78.K w x cs) : ∃ A5 c5, cs = [.int .i64 x.f0, .int .i64 x.f1, .int .i64 x.f2, .int .u32 x.f3.f0, .int .u32 x.f3.f1, .slice A5 x.f4.length c5] ∧ x.f4.length ≤ c5 ∧ (Kd.int .i64).C w A5 x.f4.length x.f4 := by
  obtain ⟨_, _, rfl, rfl, ⟨_, _, rfl, rfl, ⟨_, _, rfl, rfl, ⟨_, _, rfl, s3, ⟨A5, c5, rfl, l5, g5⟩⟩⟩⟩⟩ := h
  obtain rfl := k69_open s3
  exact ⟨A5, c5, rfl, l5, g5⟩
theorem k78_openM {w : World} {base : Nat} {ok : Nat → Prop} {x : S78} {cs : List Value} (h : k78.M w base ok x cs) : ∃ v5, cs = [.int .i64 x.f0, .int .i64 x.f1, .int .i64 x.f2, .int .u32 x.f3.f0, .int .u32 x.f3.f1, v5] ∧ (Kd.int .i64).R 3 w base ok v5 x.f4 := by
  obtain ⟨_, _, rfl, rfl, ⟨_, _, rfl, rfl, ⟨_, _, rfl, rfl, ⟨_, _, rfl, s3, ⟨v5, rfl, g5⟩⟩⟩⟩⟩ := h
  obtain rfl := k69_openM s3
  exact ⟨v5, rfl, g5⟩
theorem k78_mk (w : World) (x : S78) {A5 : Option Addr} {c5 : Nat} (l5 : x.f4.length ≤ c5) (g5 : (Kd.int .i64).C w A5 x.f4.length x.f4) : k78.K w x [.int .i64 x.f0, .int .i64 x.f1, .int .i64 x.f2, .int .u32 x.f3.f0, .int .u32 x.f3.f1, .slice A5 x.f4.length c5] := ⟨[.int .i64 x.f0], [.int .i64 x.f1, .int .i64 x.f2, .int .u32 x.f3.f0, .int .u32 x.f3.f1, .slice A5 x.f4.length c5], rfl, rfl, ⟨[.int .i64 x.f1], [.int .i64 x.f2, .int .u32 x.f3.f0, .int .u32 x.f3.f1, .slice A5 x.f4.length c5], rfl, rfl, ⟨[.int .i64 x.f2], [.int .u32 x.f3.f0, .int .u32 x.f3.f1, .slice A5 x.f4.length c5], rfl, rfl, ⟨[.int .u32 x.f3.f0, .int .u32 x.f3.f1], [.slice A5 x.f4.length c5], rfl, (k69_mk w x.f3 ), ⟨A5, c5, rfl, l5, g5⟩⟩⟩⟩⟩
theorem k78_mkM (w : World) (base : Nat) (ok : Nat → Prop) (x : S78) {v5 : Value} (g5 : (Kd.int .i64).R 3 w base ok v5 x.f4) : k78.M w base ok x [.int .i64 x.f0, .int .i64 x.f1, .int .i64 x.f2, .int .u32 x.f3.f0, .int .u32 x.f3.f1, v5] := ⟨[.int .i64 x.f0], [.int .i64 x.f1, .int .i64 x.f2, .int .u32 x.f3.f0, .int .u32 x.f3.f1, v5], rfl, rfl, ⟨[.int .i64 x.f1], [.int .i64 x.f2, .int .u32 x.f3.f0, .int .u32 x.f3.f1, v5], rfl, rfl, ⟨[.int .i64 x.f2], [.int .u32 x.f3.f0, .int .u32 x.f3.f1, v5], rfl, rfl, ⟨[.int .u32 x.f3.f0, .int .u32 x.f3.f1], [v5], rfl, (k69_mkM w base ok x.f3 ), ⟨v5, rfl, g5⟩⟩⟩⟩⟩
theorem k78_openF {W : World} {ok : Nat → Prop} {x : S78} {cs : List Value} (h : Kd.FK k78 W ok x cs) : ∃ A5 c5, cs = [.int .i64 x.f0, .int .i64 x.f1, .int .i64 x.f2, .int .u32 x.f3.f0, .int .u32 x.f3.f1, .slice A5 x.f4.length c5] ∧ x.f4.length ≤ c5 ∧ Kd.F (Kd.int .i64) W ok A5 x.f4.length x.f4 := by
  obtain ⟨A5, c5, rfl, l5, _⟩ := k78_open (Kd.FK_now h)
  exact ⟨A5, c5, rfl, l5, (fun W' hW => by obtain ⟨A5_, c5_, he, l5_, g5_⟩ := k78_open (h W' hW); injection (Option.some.inj (show some (Value.slice A5 x.f4.length c5) = some (Value.slice A5_ x.f4.length c5_) from congrArg (fun l => l[5]?) he)) with ha_ _ _; rw [ha_]; exact g5_)⟩
theorem k78_mkF (W : World) (ok : Nat → Prop) (x : S78) {A5 : Option Addr} {c5 : Nat} (l5 : x.f4.length ≤ c5) (g5 : Kd.F (Kd.int .i64) W ok A5 x.f4.length x.f4) : Kd.FK k78 W ok x [.int .i64 x.f0, .int .i64 x.f1, .int .i64 x.f2, .int .u32 x.f3.f0, .int .u32 x.f3.f1, .slice A5 x.f4.length c5] := fun W2 hW => k78_mk W2 x l5 (g5 W2 hW)
def rd_T78 (xs : List S78) (i : Int) : S78 := xs.getD i.toNat z78
theorem at_T78 {w : World} {A : Option Addr} {n : Nat} {xs : List S78} (h : Kd.C k78 w A n xs) (i : Int) (h0 : 0 ≤ i) (h1 : i < n) : ∃ ad A5 c5, A = some ad ∧ w.cell? (ad.add (i.toNat * 6)) = some (.int .i64 (rd_T78 xs i).f0) ∧ w.cell? ⟨(ad.add (i.toNat * 6)).block, (ad.add (i.toNat * 6)).off + 1, none⟩ = some (.int .i64 (rd_T78 xs i).f1) ∧ w.cell? ⟨(ad.add (i.toNat * 6)).block, (ad.add (i.toNat * 6)).off + 2, none⟩ = some (.int .i64 (rd_T78 xs i).f2) ∧ w.cell? ⟨(ad.add (i.toNat * 6)).block, (ad.add (i.toNat * 6)).off + 3, none⟩ = some (.int .u32 (rd_T78 xs i).f3.f0) ∧ w.cell? ⟨(ad.add (i.toNat * 6)).block, (ad.add (i.toNat * 6)).off + 4, none⟩ = some (.int .u32 (rd_T78 xs i).f3.f1) ∧ w.cell? ⟨(ad.add (i.toNat * 6)).block, (ad.add (i.toNat * 6)).off + 5, none⟩ = some (.slice A5 (rd_T78 xs i).f4.length c5) ∧ (rd_T78 xs i).f4.length ≤ c5 ∧ (Kd.int .i64).C w A5 (rd_T78 xs i).f4.length (rd_T78 xs i).f4 := by
  obtain ⟨ad, c, e, _, hK, hc0⟩ := Kd.C_get h z78 i h0 h1
  have hc : ∀ j u, c[j]? = some u → w.cell? (ad.add (i.toNat * 6 + j)) = some u := hc0
  obtain ⟨A5, c5, rfl, l5, g5⟩ := k78_open hK
  exact ⟨ad, A5, c5, e, hc 0 _ rfl, by rw [← add_field _ _ 1 (by omega)]; exact hc 1 _ rfl, by rw [← add_field _ _ 2 (by omega)]; exact hc 2 _ rfl, by rw [← add_field _ _ 3 (by omega)]; exact hc 3 _ rfl, by rw [← add_field _ _ 4 (by omega)]; exact hc 4 _ rfl, by rw [← add_field _ _ 5 (by omega)]; exact hc 5 _ rfl, l5, g5⟩

/-! #### struct type 82 -/
structure S82 where
  f0 : Int
  f1 : S69
def z82 : S82 := ⟨(0 : Int), z69⟩
def k82 : Kd S82 := Kd.iso (Kd.pair (Kd.int .i64) k69) (fun x : S82 => (x.f0, x.f1))
theorem k82_open {w : World} {x : S82} {cs : List Value} (h : k82.K w x cs) : cs = [.int .i64 x.f0, .int .u32 x.f1.f0, .int .u32 x.f1.f1] := by
  obtain ⟨_, _, rfl, rfl, s1⟩ := h
  obtain rfl := k69_open s1
  exact rfl
theorem k82_openM {w : World} {base : Nat} {ok : Nat → Prop} {x : S82} {cs : List Value} (h : k82.M w base ok x cs) : cs = [.int .i64 x.f0, .int .u32 x.f1.f0, .int .u32 x.f1.f1] := by
  obtain ⟨_, _, rfl, rfl, s1⟩ := h
  obtain rfl := k69_openM s1
  exact rfl
theorem k82_mk (w : World) (x : S82)  : k82.K w x [.int .i64 x.f0, .int .u32 x.f1.f0, .int .u32 x.f1.f1] := ⟨[.int .i64 x.f0], [.int .u32 x.f1.f0, .int .u32 x.f1.f1], rfl, rfl, (k69_mk w x.f1 )⟩
theorem k82_mkM (w : World) (base : Nat) (ok : Nat → Prop) (x : S82)  : k82.M w base ok x [.int .i64 x.f0, .int .u32 x.f1.f0, .int .u32 x.f1.f1] := ⟨[.int .i64 x.f0], [.int .u32 x.f1.f0, .int .u32 x.f1.f1], rfl, rfl, (k69_mkM w base ok x.f1 )⟩
theorem k82_mkF (W : World) (ok : Nat → Prop) (x : S82) : Kd.FK k82 W ok x [.int .i64 x.f0, .int .u32 x.f1.f0, .int .u32 x.f1.f1] := fun W2 _ => k82_mk W2 x
def rd_T82 (xs : List S82) (i : Int) : S82 := xs.getD i.toNat z82
theorem at_T82 {w : World} {A : Option Addr} {n : Nat} {xs : List S82} (h : Kd.C k82 w A n xs) (i : Int) (h0 : 0 ≤ i) (h1 : i < n) : ∃ ad , A = some ad ∧ w.cell? (ad.add (i.toNat * 3)) = some (.int .i64 (rd_T82 xs i).f0) ∧ w.cell? ⟨(ad.add (i.toNat * 3)).block, (ad.add (i.toNat * 3)).off + 1, none⟩ = some (.int .u32 (rd_T82 xs i).f1.f0) ∧ w.cell? ⟨(ad.add (i.toNat * 3)).block, (ad.add (i.toNat * 3)).off + 2, none⟩ = some (.int .u32 (rd_T82 xs i).f1.f1) := by
  obtain ⟨ad, c, e, _, hK, hc0⟩ := Kd.C_get h z82 i h0 h1
  have hc : ∀ j u, c[j]? = some u → w.cell? (ad.add (i.toNat * 3 + j)) = some u := hc0
  obtain rfl := k82_open hK
  exact ⟨ad, e, hc 0 _ rfl, by rw [← add_field _ _ 1 (by omega)]; exact hc 1 _ rfl, by rw [← add_field _ _ 2 (by omega)]; exact hc 2 _ rfl⟩

/-! #### struct type 104 -/
structure S104 where
  f0 : Int
  f1 : Int
  f2 : Int
  f3 : S69
  f4 : (List Int)
def z104 : S104 := ⟨(0 : Int), (0 : Int), (0 : Int), z69, ([] : List Int)⟩
def k104 : Kd S104 := Kd.iso (Kd.pair (Kd.int .i64) (Kd.pair (Kd.int .i64) (Kd.pair (Kd.int .i64) (Kd.pair k69 (Kd.slice 3 (Kd.int .i64)))))) (fun x : S104 => (x.f0, x.f1, x.f2, x.f3, x.f4))
theorem k104_open {w : World} {x : S104} {cs : List Value} (h : k104.K w x cs) : ∃ A5 c5, cs = [.int .i64 x.f0, .int .i64 x.f1, .int .i64 x.f2, .int .u32 x.f3.f0, .int .u32 x.f3.f1, .slice A5 x.f4.length c5] ∧ x.f4.length ≤ c5 ∧ (Kd.int .i64).C w A5 x.f4.length x.f4 := by
  obtain ⟨_, _, rfl, rfl, ⟨_, _, rfl, rfl, ⟨_, _, rfl, rfl, ⟨_, _, rfl, s3, ⟨A5, c5, rfl, l5, g5⟩⟩⟩⟩⟩ := h
  obtain rfl := k69_open s3
  exact ⟨A5, c5, rfl, l5, g5⟩
theorem k104_openM {w : World} {base : Nat} {ok : Nat → Prop} {x : S104} {cs : List Value} (h : k104.M w base ok x cs) : ∃ v5, cs = [.int .i64 x.f0, .int .i64 x.f1, .int .i64 x.f2, .int .u32 x.f3.f0, .int .u32 x.f3.f1, v5] ∧ (Kd.int .i64).R 3 w base ok v5 x.f4 := by
  obtain ⟨_, _, rfl, rfl, ⟨_, _, rfl, rfl, ⟨_, _, rfl, rfl, ⟨_, _, rfl, s3, ⟨v5, rfl, g5⟩⟩⟩⟩⟩ := h
  obtain rfl := k69_openM s3
  exact ⟨v5, rfl, g5⟩
theorem k104_mk (w : World) (x : S104) {A5 : Option Addr} {c5 : Nat} (l5 : x.f4.length ≤ c5) (g5 : (Kd.int .i64).C w A5 x.f4.length x.f4) : k104.K w x [.int .i64 x.f0, .int .i64 x.f1, .int .i64 x.f2, .int .u32 x.f3.f0, .int .u32 x.f3.f1, .slice A5 x.f4.length c5] := ⟨[.int .i64 x.f0], [.int .i64 x.f1, .int .i64 x.f2, .int .u32 x.f3.f0, .int .u32 x.f3.f1, .slice A5 x.f4.length c5], rfl, rfl, ⟨[.int .i64 x.f1], [.int .i64 x.f2, .int .u32 x.f3.f0, .int .u32 x.f3.f1, .slice A5 x.f4.length c5], rfl, rfl, ⟨[.int .i64 x.f2], [.int .u32 x.f3.f0, .int .u32 x.f3.f1, .slice A5 x.f4.length c5], rfl, rfl, ⟨[.int .u32 x.f3.f0, .int .u32 x.f3.f1], [.slice A5 x.f4.length c5], rfl, (k69_mk w x.f3 ), ⟨A5, c5, rfl, l5, g5⟩⟩⟩⟩⟩
theorem k104_mkM (w : World) (base : Nat) (ok : Nat → Prop) (x : S104) {v5 : Value} (g5 : (Kd.int .i64).R 3 w base ok v5 x.f4) : k104.M w base ok x [.int .i64 x.f0, .int .i64 x.f1, .int .i64 x.f2, .int .u32 x.f3.f0, .int .u32 x.f3.f1, v5] := ⟨[.int .i64 x.f0], [.int .i64 x.f1, .int .i64 x.f2, .int .u32 x.f3.f0, .int .u32 x.f3.f1, v5], rfl, rfl, ⟨[.int .i64 x.f1], [.int .i64 x.f2, .int .u32 x.f3.f0, .int .u32 x.f3.f1, v5], rfl, rfl, ⟨[.int .i64 x.f2], [.int .u32 x.f3.f0, .int .u32 x.f3.f1, v5], rfl, rfl, ⟨[.int .u32 x.f3.f0, .int .u32 x.f3.f1], [v5], rfl, (k69_mkM w base ok x.f3 ), ⟨v5, rfl, g5⟩⟩⟩⟩⟩
theorem k104_openF {W : World} {ok : Nat → Prop} {x : S104} {cs : List Value} (h : Kd.FK k104 W ok x cs) : ∃ A5 c5, cs = [.int .i64 x.f0, .int .i64 x.f1, .int .i64 x.f2, .int .u32 x.f3.f0, .int .u32 x.f3.f1, .slice A5 x.f4.length c5] ∧ x.f4.length ≤ c5 ∧ Kd.F (Kd.int .i64) W ok A5 x.f4.length x.f4 := by
  obtain ⟨A5, c5, rfl, l5, _⟩ := k104_open (Kd.FK_now h)
  exact ⟨A5, c5, rfl, l5, (fun W' hW => by obtain ⟨A5_, c5_, he, l5_, g5_⟩ := k104_open (h W' hW); injection (Option.some.inj (show some (Value.slice A5 x.f4.length c5) = some (Value.slice A5_ x.f4.length c5_) from congrArg (fun l => l[5]?) he)) with ha_ _ _; rw [ha_]; exact g5_)⟩
theorem k104_mkF (W : World) (ok : Nat → Prop) (x : S104) {A5 : Option Addr} {c5 : Nat} (l5 : x.f4.length ≤ c5) (g5 : Kd.F (Kd.int .i64) W ok A5 x.f4.length x.f4) : Kd.FK k104 W ok x [.int .i64 x.f0, .int .i64 x.f1, .int .i64 x.f2, .int .u32 x.f3.f0, .int .u32 x.f3.f1, .slice A5 x.f4.length c5] := fun W2 hW => k104_mk W2 x l5 (g5 W2 hW)
def rd_T104 (xs : List S104) (i : Int) : S104 := xs.getD i.toNat z104
theorem at_T104 {w : World} {A : Option Addr} {n : Nat} {xs : List S104} (h : Kd.C k104 w A n xs) (i : Int) (h0 : 0 ≤ i) (h1 : i < n) : ∃ ad A5 c5, A = some ad ∧ w.cell? (ad.add (i.toNat * 6)) = some (.int .i64 (rd_T104 xs i).f0) ∧ w.cell? ⟨(ad.add (i.toNat * 6)).block, (ad.add (i.toNat * 6)).off + 1, none⟩ = some (.int .i64 (rd_T104 xs i).f1) ∧ w.cell? ⟨(ad.add (i.toNat * 6)).block, (ad.add (i.toNat * 6)).off + 2, none⟩ = some (.int .i64 (rd_T104 xs i).f2) ∧ w.cell? ⟨(ad.add (i.toNat * 6)).block, (ad.add (i.toNat * 6)).off + 3, none⟩ = some (.int .u32 (rd_T104 xs i).f3.f0) ∧ w.cell? ⟨(ad.add (i.toNat * 6)).block, (ad.add (i.toNat * 6)).off + 4, none⟩ = some (.int .u32 (rd_T104 xs i).f3.f1) ∧ w.cell? ⟨(ad.add (i.toNat * 6)).block, (ad.add (i.toNat * 6)).off + 5, none⟩ = some (.slice A5 (rd_T104 xs i).f4.length c5) ∧ (rd_T104 xs i).f4.length ≤ c5 ∧ (Kd.int .i64).C w A5 (rd_T104 xs i).f4.length (rd_T104 xs i).f4 := by
  obtain ⟨ad, c, e, _, hK, hc0⟩ := Kd.C_get h z104 i h0 h1
  have hc : ∀ j u, c[j]? = some u → w.cell? (ad.add (i.toNat * 6 + j)) = some u := hc0
  obtain ⟨A5, c5, rfl, l5, g5⟩ := k104_open hK
  exact ⟨ad, A5, c5, e, hc 0 _ rfl, by rw [← add_field _ _ 1 (by omega)]; exact hc 1 _ rfl, by rw [← add_field _ _ 2 (by omega)]; exact hc 2 _ rfl, by rw [← add_field _ _ 3 (by omega)]; exact hc 3 _ rfl, by rw [← add_field _ _ 4 (by omega)]; exact hc 4 _ rfl, by rw [← add_field _ _ 5 (by omega)]; exact hc 5 _ rfl, l5, g5⟩

/-! #### struct type 106 -/
structure S106 where
  f0 : Int
  f1 : S69
def z106 : S106 := ⟨(0 : Int), z69⟩
def k106 : Kd S106 := Kd.iso (Kd.pair (Kd.int .i64) k69) (fun x : S106 => (x.f0, x.f1))
theorem k106_open {w : World} {x : S106} {cs : List Value} (h : k106.K w x cs) : cs = [.int .i64 x.f0, .int .u32 x.f1.f0, .int .u32 x.f1.f1] := by
  obtain ⟨_, _, rfl, rfl, s1⟩ := h
  obtain rfl := k69_open s1
  exact rfl
theorem k106_openM {w : World} {base : Nat} {ok : Nat → Prop} {x : S106} {cs : List Value} (h : k106.M w base ok x cs) : cs = [.int .i64 x.f0, .int .u32 x.f1.f0, .int .u32 x.f1.f1] := by
  obtain ⟨_, _, rfl, rfl, s1⟩ := h
  obtain rfl := k69_openM s1
  exact rfl
theorem k106_mk (w : World) (x : S106)  : k106.K w x [.int .i64 x.f0, .int .u32 x.f1.f0, .int .u32 x.f1.f1] := ⟨[.int .i64 x.f0], [.int .u32 x.f1.f0, .int .u32 x.f1.f1], rfl, rfl, (k69_mk w x.f1 )⟩
theorem k106_mkM (w : World) (base : Nat) (ok : Nat → Prop) (x : S106)  : k106.M w base ok x [.int .i64 x.f0, .int .u32 x.f1.f0, .int .u32 x.f1.f1] := ⟨[.int .i64 x.f0], [.int .u32 x.f1.f0, .int .u32 x.f1.f1], rfl, rfl, (k69_mkM w base ok x.f1 )⟩
theorem k106_mkF (W : World) (ok : Nat → Prop) (x : S106) : Kd.FK k106 W ok x [.int .i64 x.f0, .int .u32 x.f1.f0, .int .u32 x.f1.f1] := fun W2 _ => k106_mk W2 x
def rd_T106 (xs : List S106) (i : Int) : S106 := xs.getD i.toNat z106
theorem at_T106 {w : World} {A : Option Addr} {n : Nat} {xs : List S106} (h : Kd.C k106 w A n xs) (i : Int) (h0 : 0 ≤ i) (h1 : i < n) : ∃ ad , A = some ad ∧ w.cell? (ad.add (i.toNat * 3)) = some (.int .i64 (rd_T106 xs i).f0) ∧ w.cell? ⟨(ad.add (i.toNat * 3)).block, (ad.add (i.toNat * 3)).off + 1, none⟩ = some (.int .u32 (rd_T106 xs i).f1.f0) ∧ w.cell? ⟨(ad.add (i.toNat * 3)).block, (ad.add (i.toNat * 3)).off + 2, none⟩ = some (.int .u32 (rd_T106 xs i).f1.f1) := by
  obtain ⟨ad, c, e, _, hK, hc0⟩ := Kd.C_get h z106 i h0 h1
  have hc : ∀ j u, c[j]? = some u → w.cell? (ad.add (i.toNat * 3 + j)) = some u := hc0
  obtain rfl := k106_open hK
  exact ⟨ad, e, hc 0 _ rfl, by rw [← add_field _ _ 1 (by omega)]; exact hc 1 _ rfl, by rw [← add_field _ _ 2 (by omega)]; exact hc 2 _ rfl⟩

end Go.Proofs.Ytjcihhkeehjgdaa.PFwdSays
