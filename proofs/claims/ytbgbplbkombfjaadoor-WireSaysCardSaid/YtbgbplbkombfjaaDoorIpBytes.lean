/- ip.Bytes. -/
import Derived.Test.YtbgbplbkombfjaaDoorErrs
import Derived.Test.YtbgbplbkombfjaaDoorSumPut
import Derived.Deep.RegionHeld3
import Derived.Deep.RegionWith
import Derived.Deep.DeepCutAuto
namespace Go.Proofs.YtbgbplbkombfjaaDoor
open Go.RowKit Go.Proofs.YtbgbplbkombfjaaDoorW.PrintWords SumPlain
set_option linter.unusedVariables false
set_option linter.unusedSimpArgs false
structure Hdr where
  len : Int
  id : Int
  ttl : Int
  proto : Int
  src : Int
  dst : Int
deriving DecidableEq
def Hdr.cells (h : Hdr) : Array Value := #[.int .i64 h.len, .int .i64 h.id, .int .i64 h.ttl, .int .i64 h.proto, .int .u32 h.src, .int .u32 h.dst]
def Hdr.ok (h : Hdr) : Prop := (20 ≤ h.len ∧ h.len ≤ 65535) ∧ (0 ≤ h.id ∧ h.id ≤ 65535) ∧ (0 ≤ h.ttl ∧ h.ttl ≤ 255) ∧ (0 ≤ h.proto ∧ h.proto ≤ 255)
instance (h : Hdr) : Decidable h.ok := by unfold Hdr.ok; infer_instance
def Hdr.wf (h : Hdr) : Prop := (0 ≤ h.src ∧ h.src < 4294967296) ∧ (0 ≤ h.dst ∧ h.dst < 4294967296)
/-- A header's bytes ahead of the sum. -/
def hdrRaw (h : Hdr) : List Int := [69, 0, h.len / 256, h.len % 256, h.id / 256, h.id % 256, 0, 0, h.ttl, h.proto, 0, 0] ++ adB h.src ++ adB h.dst
def hdrL (h : Hdr) : List Int := putL (hdrRaw h) 10
set_option maxHeartbeats 400000 in
set_option maxRecDepth 100000 in
theorem between_yes (n lo hi : Int) (w : World) (h1 : lo ≤ n) (h2 : n ≤ hi) : Calls Tryd.prog 36 #[.int .i64 n, .int .i64 lo, .int .i64 hi] w fun e w' => e = .returned (.bool true) ∧ w = w' := by
  go_enter Tryd.func36, Tryd.ntmps36
  go_wp2
  go_ret
  exact ⟨rfl, rfl⟩
set_option maxHeartbeats 400000 in
set_option maxRecDepth 100000 in
theorem between_no (n lo hi : Int) (w : World) (h : ¬ (lo ≤ n ∧ n ≤ hi)) : Calls Tryd.prog 36 #[.int .i64 n, .int .i64 lo, .int .i64 hi] w fun e w' => e = .returned (.bool false) ∧ w = w' := by
  by_cases h1 : lo ≤ n
  · have h2 : hi < n := by omega
    have h3 : decide (n ≤ hi) = false := decide_eq_false (by omega)
    clear h
    go_enter Tryd.func36, Tryd.ntmps36
    go_wp2
    go_ret
    exact ⟨rfl, rfl⟩
  · have h2 : n < lo := by omega
    have h3 : decide (lo ≤ n) = false := decide_eq_false h1
    clear h
    go_enter Tryd.func36, Tryd.ntmps36
    go_wp2
    go_ret
    exact ⟨rfl, rfl⟩
set_option maxHeartbeats 1000000 in
set_option maxRecDepth 100000 in
theorem ipBytes_bad (E : Nat → Addr) (h : Hdr) (w : World) (hE : w.cell? ⟨0, 0, none⟩ = some (errV E (some 0))) (hn : ¬ h.ok) :
    Calls Tryd.prog 13 #[.agg h.cells] w fun e w' => e = .returned (.tuple #[.slice none 0 0, errV E (some 0)]) ∧ Below w.heap.size w w' := by
  obtain ⟨len, id, ttl, proto, src, dst⟩ := h
  simp only [Hdr.cells]
  have hc := pw_cell_below (below_alloc (Below.refl w.heap.size w) (.cells #[.int .i64 len, .int .i64 id, .int .i64 ttl, .int .i64 proto, .int .u32 src, .int .u32 dst] 25)) hE
  simp only [errV] at hc ⊢
  clear hE
  by_cases h0 : 20 ≤ len ∧ len ≤ 65535
  · by_cases h1 : 0 ≤ id ∧ id ≤ 65535
    · by_cases h2 : 0 ≤ ttl ∧ ttl ≤ 255
      · have h3 : ¬ (0 ≤ proto ∧ proto ≤ 255) := fun h3 => hn ⟨h0, h1, h2, h3⟩
        have H := Aside0.mk (And.intro h0 (And.intro h1 (And.intro h2 (h3))))
        clear hn h0 h1 h2 h3
        go_enter Tryd.func13, Tryd.ntmps13
        go_wp2_with fail
        refine (between_yes _ _ _ _ H.out.1.1 H.out.1.2).mono ?_
        rintro e w1 ⟨rfl, rfl⟩
        go_wp2_with fail
        refine (between_yes _ _ _ _ H.out.2.1.1 H.out.2.1.2).mono ?_
        rintro e w1 ⟨rfl, rfl⟩
        go_wp2_with fail
        refine (between_yes _ _ _ _ H.out.2.2.1.1 H.out.2.2.1.2).mono ?_
        rintro e w1 ⟨rfl, rfl⟩
        go_wp2_with fail
        refine (between_no _ _ _ _ H.out.2.2.2).mono ?_
        rintro e w1 ⟨rfl, rfl⟩
        go_wp2
        go_quiet (fail)
        go_wp2
        go_ret2
        exact ⟨rfl, pw_below_drewN (below_alloc (Below.refl _ _) _) _⟩
      · have H := Aside0.mk (And.intro h0 (And.intro h1 (h2)))
        clear hn h0 h1 h2
        go_enter Tryd.func13, Tryd.ntmps13
        go_wp2_with fail
        refine (between_yes _ _ _ _ H.out.1.1 H.out.1.2).mono ?_
        rintro e w1 ⟨rfl, rfl⟩
        go_wp2_with fail
        refine (between_yes _ _ _ _ H.out.2.1.1 H.out.2.1.2).mono ?_
        rintro e w1 ⟨rfl, rfl⟩
        go_wp2_with fail
        refine (between_no _ _ _ _ H.out.2.2).mono ?_
        rintro e w1 ⟨rfl, rfl⟩
        go_wp2
        go_quiet (fail)
        go_wp2
        go_ret2
        exact ⟨rfl, pw_below_drewN (below_alloc (Below.refl _ _) _) _⟩
    · have H := Aside0.mk (And.intro h0 (h1))
      clear hn h0 h1
      go_enter Tryd.func13, Tryd.ntmps13
      go_wp2_with fail
      refine (between_yes _ _ _ _ H.out.1.1 H.out.1.2).mono ?_
      rintro e w1 ⟨rfl, rfl⟩
      go_wp2_with fail
      refine (between_no _ _ _ _ H.out.2).mono ?_
      rintro e w1 ⟨rfl, rfl⟩
      go_wp2
      go_quiet (fail)
      go_wp2
      go_ret2
      exact ⟨rfl, pw_below_drewN (below_alloc (Below.refl _ _) _) _⟩
  · have H := Aside0.mk (h0)
    clear hn h0
    go_enter Tryd.func13, Tryd.ntmps13
    go_wp2_with fail
    refine (between_no _ _ _ _ H.out).mono ?_
    rintro e w1 ⟨rfl, rfl⟩
    go_wp2
    go_quiet (fail)
    go_wp2
    go_ret2
    exact ⟨rfl, pw_below_drewN (below_alloc (Below.refl _ _) _) _⟩
theorem adB_byt (a : Int) (h0 : 0 ≤ a) (h1 : a < 4294967296) : Byt (adB a) := by
  intro x hx
  simp [adB] at hx
  omega
theorem raw_byt (h : Hdr) (hk : h.ok) (hw : h.wf) : Byt (hdrRaw h) := by
  obtain ⟨⟨h0, h0'⟩, ⟨h1, h1'⟩, ⟨h2, h2'⟩, h3, h3'⟩ := hk
  refine byt_append (byt_append ?_ (adB_byt _ hw.1.1 hw.1.2)) (adB_byt _ hw.2.1 hw.2.2)
  intro x hx
  simp at hx
  omega
theorem reach_to {B : Nat} {a w w' : World} (h : Below B a w) (hB : B ≤ w.heap.size) (k : Below w.heap.size w w') : Below B a w' := below_then h hB k
theorem new_at (w : World) (o : Obj) (g : Nat) (hg : w.heap.size = g) : (w.alloc o).heap[g]? = some o := by subst hg; exact heap_alloc_new w o
theorem lit_R (k : IntKind) (W : World) (e : TypeId) (xs : List Int) (base : Nat) (hm : xs.length ≤ 1000000) (hb : base ≤ W.heap.size) : (Kd.int k).R e (W.alloc (.cells (nums k xs).toArray e)) base (fun _ => True) (.slice (some ⟨W.heap.size, 0, none⟩) xs.length xs.length) xs :=
  Kd.R_of_own (own_lit W base e k xs hb (by omega)) (fun _ _ => trivial)
theorem blk_C (k : IntKind) {w : World} {g : Nat} {e : TypeId} (xs : List Int) (hm : xs.length ≤ 1000000) (h : w.heap[g]? = some (.cells (nums k xs).toArray e (0, 0))) : (Kd.int k).C w (some ⟨g, 0, none⟩) xs.length xs := by
  refine Kd.C_of_reads (d := 0) ⟨rfl, by omega, fun _ => ⟨⟨g, 0, none⟩, rfl, fun j hj => ?_⟩⟩
  rw [add_plain, blk_cell h j]
  simp [nums, List.getElem?_eq_getElem hj, List.getD_eq_getElem?_getD]
set_option maxHeartbeats 4000000 in
set_option maxRecDepth 100000 in
theorem ipBytes_good (h : Hdr) (w : World) (hk : h.ok) (hw : h.wf) :
    Calls Tryd.prog 13 #[.agg h.cells] w fun e w' => ∃ v, e = .returned (.tuple #[v, .nilIface]) ∧ (Kd.int .u8).R 5 w' w.heap.size (fun _ => True) v (hdrL h) ∧ Below w.heap.size w w' := by
  obtain ⟨len, id, ttl, proto, src, dst⟩ := h
  have hu := Tryd.underlying73
  simp only [Hdr.cells]
  obtain ⟨⟨h0, h0'⟩, ⟨h1, h1'⟩, ⟨h2, h2'⟩, h3, h3'⟩ := hk
  obtain ⟨⟨h4, h4'⟩, h5, h5'⟩ := hw
  simp only at h0 h0' h1 h1' h2 h2' h3 h3' h4 h4' h5 h5'
  go_enter Tryd.func13, Tryd.ntmps13
  go_wp2_with fail
  refine (between_yes _ _ _ _ h0 h0').mono ?_
  rintro e w1 ⟨rfl, rfl⟩
  go_wp2_with fail
  refine (between_yes _ _ _ _ h1 h1').mono ?_
  rintro e w1 ⟨rfl, rfl⟩
  go_wp2_with fail
  refine (between_yes _ _ _ _ h2 h2').mono ?_
  rintro e w1 ⟨rfl, rfl⟩
  go_wp2_with fail
  refine (between_yes _ _ _ _ h3 h3').mono ?_
  rintro e w1 ⟨rfl, rfl⟩
  go_wp2_with fail
  obtain ⟨W, hW⟩ : ∃ W, W = (w.alloc (.cells #[.int .i64 len, .int .i64 id, .int .i64 ttl, .int .i64 proto, .int .u32 src, .int .u32 dst] 25)).alloc (.cells (nums .u8 [69, 0, len / 256, len % 256, id / 256, id % 256, 0, 0, ttl, proto, 0, 0]).toArray 5) := ⟨_, rfl⟩
  have hW' := hW
  simp only [nums, List.map_cons, List.map_nil, List.toArray] at hW'
  rw [← hW']
  clear hW'
  have hsz : W.heap.size = w.heap.size + 2 := by rw [hW]; simp
  have hbW : Below w.heap.size w W := by rw [hW]; exact below_alloc (below_alloc (Below.refl _ _) _) _
  have hR0 : (Kd.int .u8).R 5 W w.heap.size (fun _ => True) (.slice (some ⟨w.heap.size + 1, 0, none⟩) 12 12) [69, 0, len / 256, len % 256, id / 256, id % 256, 0, 0, ttl, proto, 0, 0] := by
    rw [hW]
    have := lit_R .u8 (w.alloc (.cells #[.int .i64 len, .int .i64 id, .int .i64 ttl, .int .i64 proto, .int .u32 src, .int .u32 dst] 25)) 5 [69, 0, len / 256, len % 256, id / 256, id % 256, 0, 0, ttl, proto, 0, 0] w.heap.size (by simp) (by simp)
    simpa using this
  have hh : W.heap[w.heap.size]? = some (.cells #[.int .i64 len, .int .i64 id, .int .i64 ttl, .int .i64 proto, .int .u32 src, .int .u32 dst] 25 (0, 0)) := by
    rw [hW]; exact blk_alloc (heap_alloc_new w _) _
  have p4 := (blk_cell hh 4).trans rfl
  have p5 := (blk_cell hh 5).trans rfl
  have HS := Aside0.mk (And.intro hbW (And.intro hR0 hh))
  clear hW hbW hR0 hh
  obtain ⟨b, hb⟩ : ∃ b, b = w.heap.size := ⟨_, rfl⟩
  rw [← hb] at p4 p5 hsz ⊢
  have HB := Aside0.mk hb
  clear hb
  have hlt : b < W.heap.size := by omega
  go_cut [5, 6] (fun v5 v6 wx => ∃ g5 g6 : Nat, v5 = .pointer (some ⟨g5, 0, none⟩) ∧ v6 = .pointer (some ⟨g6, 0, none⟩) ∧ Aside0 (wx.heap[g5]? = some (.cells (adC src) 73 (0, 0)) ∧ wx.heap[g6]? = some (.cells (adC dst) 73 (0, 0)) ∧ W.heap.size ≤ g5 ∧ W.heap.size ≤ g6 ∧ Below W.heap.size W wx))
  case first =>
    go_region_held3 (fun w' => w'.cell? ⟨b, 4, none⟩ = some (.int .u32 src) ∧ w'.cell? ⟨b, 5, none⟩ = some (.int .u32 dst)) ((refine (fun hK : Below W.heap.size W _ => And.intro (pw_cell_below hK p4) (pw_cell_below hK p5)) ?_; go_grown))
      (first | (go_at_call 37; refine (addrBytes_any _ _ (by assumption) (by assumption)).mono ?_; rintro e w2 ⟨rfl, rfl⟩))
    all_goals
      go_wp2_with fail
      go_meet
      exact ⟨_, _, rfl, rfl, ⟨by repeat (first | (refine new_at _ _ _ ?_; simp only [World.size_alloc, World.size_drew, hsz]; done) | refine blk_drew ?_ | refine blk_alloc ?_ _), by repeat (first | (refine new_at _ _ _ ?_; simp only [World.size_alloc, World.size_drew, hsz]; done) | refine blk_drew ?_ | refine blk_alloc ?_ _), by omega, by omega, by go_grown⟩⟩
  case rest =>
    obtain ⟨g5, g6, rfl, rfl, HG⟩ := hcut
    obtain ⟨hbW, hR0, hh⟩ := HS.out
    obtain ⟨k5, k6, n5, n6, hb⟩ := HG.out
    have hw0 := HB.out
    have hR1 := Kd.R_below hR0 hb
    have hb1 := reach_to hbW (by omega) hb
    have hs1 := hb.size
    have C5 := blk_C .u8 (adB src) (by simp [adB]) (k5.trans rfl)
    have HQ := Aside0.mk (And.intro k6 (And.intro hR1 (And.intro hb1 C5)))
    have HW := Aside0.mk (And.intro hw0 (And.intro hsz hb))
    clear hbW hR0 hh k5 k6 hb hR1 hb1 C5 hw0 HS p4 p5 hsz
    go_wp2_with (at_builtin; refine Kd.R_append_row (w0 := w) (Value.int .u8) 0 w.heap.size rfl (.tmp 57) (.tmp 58) 26 5 (.int .u8 0) 1 rfl Tryd.underlying26 Tryd.infoB rfl (by decide) (.slice (some ⟨b + 1, 0, none⟩) 12 12) [69, 0, len / 256, len % 256, id / 256, id % 256, 0, 0, ttl, proto, 0, 0] (adB src) (some ⟨g5, 0, none⟩) 4 4 (fun _ => True) (by rfl) (by rfl) (fun _ _ => trivial) (by rw [HW.out.1]; exact HQ.out.2.1) HQ.out.2.2.2 HQ.out.2.2.1 (HQ.out.2.2.1.size) (by simp) ?_)
    intro v1 w3 hown1 hbel1 hgr hat
    obtain ⟨hw0, hsz, hb⟩ := HW.out
    have hne : some g6 ≠ (Value.slice (some ⟨b + 1, 0, none⟩) 12 12).ownBlock := by simp [Value.ownBlock]; omega
    have C6 := blk_C .u8 (adB dst) (by simp [adB]) ((blk_grown HQ.out.1 hgr hne).trans rfl)
    clear hne hgr hat hw0 hsz hb
    have HO := Aside0.mk hown1
    clear hown1
    go_wp2_with (at_builtin; refine Kd.R_append_row (w0 := w) (Value.int .u8) 0 w.heap.size rfl (.tmp 60) (.tmp 61) 26 5 (.int .u8 0) 1 rfl Tryd.underlying26 Tryd.infoB rfl (by decide) v1 ([69, 0, len / 256, len % 256, id / 256, id % 256, 0, 0, ttl, proto, 0, 0] ++ adB src) (adB dst) (some ⟨g6, 0, none⟩) 4 4 (fun _ => True) (by rfl) (by rfl) (fun _ _ => trivial) HO.out C6 hbel1 (hbel1.size) (by simp [adB]) ?_)
    intro v2 w4 hown2 hbel2 _ _
    go_wp2_with fail
    obtain ⟨A2, c2, rfl, hle2, hC2⟩ := Kd.R_reads hown2
    refine (put_any A2 _ c2 _ 10 _ hC2 ?_ (by simp [adB])).mono ?_
    · exact raw_byt ⟨len, id, ttl, proto, src, dst⟩ ⟨⟨h0, h0'⟩, ⟨h1, h1'⟩, ⟨h2, h2'⟩, h3, h3'⟩ ⟨⟨h4, h4'⟩, h5, h5'⟩
    rintro e w5 ⟨v5, rfl, hR5, hb5⟩
    go_wp2
    go_ret2
    exact ⟨_, rfl, Kd.R_lower hR5 hbel2.size, reach_to hbel2 hbel2.size hb5⟩
end Go.Proofs.YtbgbplbkombfjaaDoor
