/- Bids: what they are in memory (the kinds as the kit's kinds.py writes them), best.Better. -/
import Derived.Test.YtjcihhkeehjgdaaOwn
namespace Go.Proofs.Ytjcihhkeehjgdaa
open Go.RowKit Go.Proofs.YtjcihhkeehjgdaaW.PrintWords
set_option linter.unusedVariables false
set_option linter.unusedSimpArgs false
/-! #### a bid -/
structure SBid where
  f0 : Int
  f1 : Int
def zBid : SBid := ⟨(0 : Int), (0 : Int)⟩
def kBid : Kd SBid := Kd.iso (Kd.pair (Kd.int .i64) (Kd.int .u32)) (fun x : SBid => (x.f0, x.f1))
theorem kBid_open {w : World} {x : SBid} {cs : List Value} (h : kBid.K w x cs) : cs = [.int .i64 x.f0, .int .u32 x.f1] := by
  obtain ⟨_, _, rfl, rfl, rfl⟩ := h
  exact rfl
theorem kBid_openM {w : World} {base : Nat} {ok : Nat → Prop} {x : SBid} {cs : List Value} (h : kBid.M w base ok x cs) : cs = [.int .i64 x.f0, .int .u32 x.f1] := by
  obtain ⟨_, _, rfl, rfl, rfl⟩ := h
  exact rfl
theorem kBid_mk (w : World) (x : SBid)  : kBid.K w x [.int .i64 x.f0, .int .u32 x.f1] := ⟨[.int .i64 x.f0], [.int .u32 x.f1], rfl, rfl, rfl⟩
theorem kBid_mkM (w : World) (base : Nat) (ok : Nat → Prop) (x : SBid)  : kBid.M w base ok x [.int .i64 x.f0, .int .u32 x.f1] := ⟨[.int .i64 x.f0], [.int .u32 x.f1], rfl, rfl, rfl⟩
def rd_Bid (xs : List SBid) (i : Int) : SBid := xs.getD i.toNat zBid
theorem at_Bid {w : World} {A : Option Addr} {n : Nat} {xs : List SBid} (h : Kd.C kBid w A n xs) (i : Int) (h0 : 0 ≤ i) (h1 : i < n) : ∃ ad , A = some ad ∧ w.cell? (ad.add (i.toNat * 2)) = some (.int .i64 (rd_Bid xs i).f0) ∧ w.cell? ⟨(ad.add (i.toNat * 2)).block, (ad.add (i.toNat * 2)).off + 1, none⟩ = some (.int .u32 (rd_Bid xs i).f1) := by
  obtain ⟨ad, c, e, _, hK, hc0⟩ := Kd.C_get h zBid i h0 h1
  have hc : ∀ j u, c[j]? = some u → w.cell? (ad.add (i.toNat * 2 + j)) = some u := hc0
  obtain rfl := kBid_open hK
  exact ⟨ad, e, hc 0 _ rfl, by rw [← add_field _ _ 1 (by omega)]; exact hc 1 _ rfl⟩

/-- Is a better than b? -/
def better (a b : SBid) : Bool := decide (a.f0 < b.f0) || (decide (a.f0 = b.f0) && decide (b.f1 < a.f1))
theorem better_lt {a b : SBid} (h : a.f0 < b.f0) : better a b = true := by simp [better, h]
theorem better_gt {a b : SBid} (h : b.f0 < a.f0) : better a b = false := by simp [better]; omega
theorem better_eq {a b : SBid} (h : a.f0 = b.f0) : better a b = decide (b.f1 < a.f1) := by simp [better, h]
set_option maxHeartbeats 400000 in
theorem better_any (a b : SBid) (w : World) :
    Calls Try.prog 17 #[.agg #[.int .i64 a.f0, .int .u32 a.f1], .agg #[.int .i64 b.f0, .int .u32 b.f1]] w fun e w' => e = .returned (.bool (better a b)) ∧ Below w.heap.size w w' := by
  have hu30 := Try.underlying30
  obtain ⟨a0, a1⟩ := a
  obtain ⟨b0, b1⟩ := b
  rcases Int.lt_trichotomy a0 b0 with h | h | h
  · have HR := Aside0.mk (better_lt (a := ⟨a0, a1⟩) (b := ⟨b0, b1⟩) h)
    simp only
    go_enter Try.func17, Try.ntmps17
    go_wp2
    go_ret
    exact ⟨ret_bool HR.out.symm, ((Below.refl _ _).alloc (Nat.le_refl _) _).alloc (by simp) _⟩
  · subst h
    by_cases h1 : b1 < a1
    · have HR := Aside0.mk (better_eq (a := ⟨a0, a1⟩) (b := ⟨a0, b1⟩) rfl)
      rw [show decide ((⟨a0, b1⟩ : SBid).f1 < (⟨a0, a1⟩ : SBid).f1) = true from decide_eq_true h1] at HR
      simp only
      go_enter Try.func17, Try.ntmps17
      go_wp2
      repeat (go_quiet (fail); try go_wp2)
      go_ret
      exact ⟨ret_bool HR.out.symm, ((Below.refl _ _).alloc (Nat.le_refl _) _).alloc (by simp) _⟩
    · have HR := Aside0.mk (better_eq (a := ⟨a0, a1⟩) (b := ⟨a0, b1⟩) rfl)
      rw [show decide ((⟨a0, b1⟩ : SBid).f1 < (⟨a0, a1⟩ : SBid).f1) = false from decide_eq_false h1] at HR
      simp only
      go_enter Try.func17, Try.ntmps17
      go_wp2
      repeat (go_quiet (fail); try go_wp2)
      go_ret
      exact ⟨ret_bool HR.out.symm, ((Below.refl _ _).alloc (Nat.le_refl _) _).alloc (by simp) _⟩
  · have HR := Aside0.mk (better_gt (a := ⟨a0, a1⟩) (b := ⟨b0, b1⟩) h)
    have h2 : (a0 == b0) = false := by rw [beq_eq_false_iff_ne]; omega
    have h3 : decide (a0 < b0) = false := decide_eq_false (by omega)
    simp only
    clear h
    go_enter Try.func17, Try.ntmps17
    go_wp2
    go_ret
    exact ⟨ret_bool HR.out.symm, ((Below.refl _ _).alloc (Nat.le_refl _) _).alloc (by simp) _⟩
theorem bid_at {w : World} {A : Option Addr} {n : Nat} {xs : List SBid} (h : Kd.C kBid w A n xs) (j : Nat) (hj : j < n) : ∃ ad x, A = some ad ∧ w.cell? (ad.add (j * 2)) = some (.int .i64 x.f0) ∧ w.cell? ⟨(ad.add (j * 2)).block, (ad.add (j * 2)).off + 1, none⟩ = some (.int .u32 x.f1) ∧ Aside0 (x = xs.getD j zBid) := by
  obtain ⟨ad, e, h0, h1⟩ := at_Bid h (j : Int) (by omega) (by omega)
  rw [Int.toNat_natCast] at h0 h1
  exact ⟨ad, _, e, h0, h1, ⟨by simp [rd_Bid]⟩⟩
end Go.Proofs.Ytjcihhkeehjgdaa
