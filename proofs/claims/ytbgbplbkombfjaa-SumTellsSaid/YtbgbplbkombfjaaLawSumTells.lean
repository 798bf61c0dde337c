/- SumTells: the walk of the law. -/
import Derived.Test.YtbgbplbkombfjaaLawSumOwn
namespace Go.Proofs.Ytbgbplbkombfjaa
open Go.RowKit Go.Proofs.YtbgbplbkombfjaaW.PrintWords SumPlain
set_option linter.unusedVariables false
set_option linter.unusedSimpArgs false
def flip (u : Int) (t : Nat) : Int := bits BinOp.xor IntKind.u8 u (2 ^ t % 256)
theorem flip_all : ∀ u : Fin 256, ∀ t : Fin 8, 0 ≤ flip (u.val : Int) t.val ∧ flip (u.val : Int) t.val ≤ 255 ∧ (flip (u.val : Int) t.val = (u.val : Int) + 2 ^ t.val ∨ flip (u.val : Int) t.val = (u.val : Int) - 2 ^ t.val) ∧ flip (flip (u.val : Int) t.val) t.val = (u.val : Int) := by decide +kernel
theorem flip_any (u : Int) (t : Nat) (h0 : 0 ≤ u) (h1 : u ≤ 255) (ht : t < 8) : 0 ≤ flip u t ∧ flip u t ≤ 255 ∧ (flip u t = u + 2 ^ t ∨ flip u t = u - 2 ^ t) ∧ flip (flip u t) t = u := by
  obtain ⟨v, rfl⟩ := Int.eq_ofNat_of_zero_le h0
  exact flip_all ⟨v, by omega⟩ ⟨t, ht⟩
set_option maxHeartbeats 400000 in
theorem sumTells_walk (A : Option Addr) (n c : Nat) (l : List Int) (at_ bit : Int) (w : World) (hr : Kd.C (Kd.int .u8) w A n l) (hb : Byt l) (hwf : (Lit.int .i64 at_).wf = true) (hwf2 : (Lit.int .i64 bit).wf = true) :
    Calls Try.prog 7 #[.slice A n c, .int .i64 at_, .int .i64 bit] w fun e w' => e = .returned (.bool true) ∧ Below w.heap.size w w' := by
  by_cases hl : (300 : Int) < n
  · go_enter Try.func7, Try.ntmps7
    go_wp2_with (go_at_call 8; refine (first2_any w).mono ?_; rintro e w1 ⟨rfl, rfl⟩)
    go_ret
    exact ⟨rfl, Below.refl _ _⟩
  · by_cases hl2 : (n : Int) < 2
    · go_enter Try.func7, Try.ntmps7
      go_wp2_with (go_at_call 8; refine (first2_any w).mono ?_; rintro e w1 ⟨rfl, rfl⟩)
      go_ret
      exact ⟨rfl, Below.refl _ _⟩
    · have hlen := Aside0.mk hr.1
      have hll : l.length ≤ 1000000 := by have := hr.1; omega
      obtain ⟨q, hq, HNum⟩ := number_ex at_ ((n : Int) / 2) (by omega) (by omega) hwf
      obtain ⟨b, hbq, HBit⟩ := number_ex bit (8 * (n : Int)) (by omega) (by omega) hwf2
      have hpb : Byt (putL l (2 * (q : Int))) := putL_byt hb _
      have hpl : (putL l (2 * (q : Int))).length = n := by rw [putL_length, hlen.out]
      have HZ : Aside0 (ofL (putL l (2 * (q : Int))) = 0) := ⟨putL_holds l hb (2 * q) (by omega) (by rw [hlen.out]; omega)⟩
      obtain ⟨x, hx⟩ : ∃ x, x = putL l (2 * (q : Int)) := ⟨_, rfl⟩
      rw [← hx] at hpb hpl HZ
      have HX := Aside0.mk hx
      have HP := Aside0.mk hpl
      clear hx hpl
      have hxl : x.length ≤ 1000000 := by rw [HP.out]; omega
      go_enter Try.func7, Try.ntmps7
      go_wp2_with fail
      refine (first2_any w).mono ?_
      rintro e w1 ⟨rfl, rfl⟩
      go_wp2_with fail
      refine (HNum.out w).mono ?_
      rintro e w1 ⟨rfl, rfl⟩
      go_wp2_with fail
      refine (put_any A n c l (2 * (q : Int)) w hr hb hll).mono ?_
      rintro e w1 ⟨v1, rfl, hown1, hbel1⟩
      rw [← HX.out] at hown1
      obtain ⟨g, cap, rfl, hg⟩ := R_form hown1 (by rw [HP.out]; omega)
      rw [HP.out] at hown1 ⊢
      have hC1 := (R_C hown1).2
      go_wp2_with fail
      refine (check_any _ n cap x w1 hC1 hpb hxl).mono ?_
      rintro e w2 ⟨rfl, rfl⟩
      rw [HZ.out]
      have hbj : b / 8 < n := by omega
      obtain ⟨q0, f0⟩ := R_nat hown1 HP.out (b / 8) hbj
      obtain ⟨u, hu⟩ : ∃ u, u = x.getD (b / 8) 0 := ⟨_, rfl⟩
      have hu2 := byt_getD hpb (b / 8)
      rw [← hu] at q0 hu2
      obtain ⟨hu0, hu1⟩ := hu2
      have HU := Aside0.mk hu
      clear hu
      go_wp2_with fail
      refine (HBit.out w1).mono ?_
      rintro e w2 ⟨rfl, rfl⟩
      go_wp2_with fail
      have hf := flip_any u (b % 8) hu0 hu1 (by omega)
      have HN : Aside0 (decide (ofL (x.set (b / 8) (flip u (b % 8))) = 0) = false) := ⟨decide_eq_false (tells x (b / 8) _ (b % 8) (by omega) (by rw [HP.out]; exact hbj) HZ.out (by rw [← HU.out]; exact hf.2.2.1))⟩
      have hbf : Byt (x.set (b / 8) (flip u (b % 8))) := byt_set hpb _ _ ⟨hf.1, hf.2.1⟩
      have HB : Aside0 (flip (flip u (b % 8)) (b % 8) = u) := ⟨hf.2.2.2⟩
      have hown2 := R_putn hown1 HP.out (b / 8) (flip u (b % 8))
      obtain ⟨q1, f1⟩ := R_nat hown2 (by rw [List.length_set, HP.out]) (b / 8) hbj
      have hb2 : Below w.heap.size w (w1.setCell ⟨g, b / 8, none⟩ (.int .u8 (flip u (b % 8)))) := hbel1.setCell hg _
      have hxb : (x.set (b / 8) (flip u (b % 8))).set (b / 8) u = x := by rw [HU.out]; exact set_back x _ _
      have hfg : (x.set (b / 8) (flip u (b % 8))).getD (b / 8) 0 = flip u (b % 8) := by rw [List.getD_eq_getElem?_getD, List.getElem?_set_self (by rw [HP.out]; exact hbj)]; rfl
      obtain ⟨f, hfe⟩ : ∃ f, f = flip u (b % 8) := ⟨_, rfl⟩
      have hshow : bits BinOp.xor IntKind.u8 u (2 ^ (b % 8) % 256) = f := hfe.symm
      have HS : Aside0 (bits BinOp.xor IntKind.u8 f (2 ^ (b % 8) % 256) = u) := ⟨by have := HB.out; rw [← hfe] at this; exact this⟩
      rw [← hfe] at hxb hfg hown2 hbf HN hb2 q1 f1
      rw [hshow]
      rw [hfg] at q1
      have HXB := Aside0.mk hxb
      have hC2 := (R_C hown2).2
      clear hf hshow hfe hxb hfg HB
      refine (check_any _ n cap (x.set (b / 8) f) _ hC2 hbf (by rw [List.length_set]; exact hxl)).mono ?_
      rintro e w2 ⟨rfl, rfl⟩
      rw [HN.out]
      go_wp2_with fail
      have hown3 := R_putn hown2 (by rw [List.length_set, HP.out]) (b / 8) u
      rw [HXB.out] at hown3
      have hC3 := (R_C hown3).2
      have hb3 := hb2.setCell hg (p := ⟨g, b / 8, none⟩) (.int .u8 u)
      rw [HS.out]
      refine (check_any _ n cap x _ hC3 hpb hxl).mono ?_
      rintro e w2 ⟨rfl, rfl⟩
      rw [HZ.out]
      go_wp2_with fail
      go_ret
      exact ⟨rfl, hb3⟩
end Go.Proofs.Ytbgbplbkombfjaa
