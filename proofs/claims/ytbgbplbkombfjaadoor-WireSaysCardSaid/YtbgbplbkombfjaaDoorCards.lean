/-
  DERIVED. GIVEN WITH THE SEED: THE CARDS: each row of YtbgbplbkombfjaaDoorRows.lean that lists a variable, with what it lists TIED to the program's text (the seventh form; the later family's looks); each row that meets fmt, with fmt's text TOLD by the authors' own Lean function (tested against real Go, not proved from fmt's source: count such statements apart). THE CARD IS WHAT COUNTS. Prove the row's statement (the work); the ties are given (YtbgbplbkombfjaaDoorTie.lean); close each card by the builder's one call (the guide's Derived/Test/ToyasCard.lean, 'card_holds'). Laid BY PROGRAM, IN A SANDBOX (cutbox-door.mjs). By AI agents, Wed Nov 11 2026. No macro, syntax, notation, axiom, sorry.
-/
import Derived.Test.YtbgbplbkombfjaaDoorRows
import GoSem.ClaimSeven
namespace Go.Proofs.YtbgbplbkombfjaaDoor
namespace Rows

/-- THE TIED CARD OF 'rivuletlaw3.IpSays'. -/
def ipSaysCard : Claim7 := { stood := { row := ipSaysRow, standIns := [], harness := (true, "908e3df360d1e41579537dce56fdb07075043c8f42f0ee5c57533485f5e7903c"), looks := true }, kinds := [], alts := [], laidByText := true, laidKinds := [.sentinel, .sentinel, .sentinel, .sentinel, .sentinel, .sentinel, .sentinel, .sentinel, .sentinel, .sentinel, .sentinel, .sentinel, .sentinel, .sentinel], laidTests := true, laidLooks := .later }
def IpSaysCardSaid : Prop := Claim7.holds Tryd.pinned (.plain (OpenSpec.ofChange ipSaysSpec)) ipSaysCard

/-- THE TIED CARD OF 'rivuletlaw3.IpBack'. -/
def ipBackCard : Claim7 := { stood := { row := ipBackRow, standIns := [], harness := (true, "908e3df360d1e41579537dce56fdb07075043c8f42f0ee5c57533485f5e7903c"), looks := true }, kinds := [], alts := [], laidByText := true, laidKinds := [.sentinel, .sentinel, .sentinel, .sentinel, .sentinel, .sentinel, .sentinel, .sentinel, .sentinel, .sentinel, .sentinel, .sentinel, .sentinel, .sentinel], laidTests := true, laidLooks := .later }
def IpBackCardSaid : Prop := Claim7.holds Tryd.pinned (.plain (OpenSpec.ofChange ipBackSpec)) ipBackCard

/-- THE TIED CARD OF 'rivuletlaw3.IpFields'. -/
def ipFieldsCard : Claim7 := { stood := { row := ipFieldsRow, standIns := [], harness := (true, "908e3df360d1e41579537dce56fdb07075043c8f42f0ee5c57533485f5e7903c"), looks := true }, kinds := [], alts := [], laidByText := true, laidKinds := [.sentinel, .sentinel, .sentinel, .sentinel], laidTests := true, laidLooks := .later }
def IpFieldsCardSaid : Prop := Claim7.holds Tryd.pinned (.plain (OpenSpec.ofChange ipFieldsSpec)) ipFieldsCard

/-- THE TIED CARD OF 'rivuletlaw3.IpCut'. -/
def ipCutCard : Claim7 := { stood := { row := ipCutRow, standIns := [], harness := (true, "908e3df360d1e41579537dce56fdb07075043c8f42f0ee5c57533485f5e7903c"), looks := true }, kinds := [], alts := [], laidByText := true, laidKinds := [.sentinel, .sentinel, .sentinel, .sentinel], laidTests := true, laidLooks := .later }
def IpCutCardSaid : Prop := Claim7.holds Tryd.pinned (.plain (OpenSpec.ofChange ipCutSpec)) ipCutCard

/-- THE TIED CARD OF 'rivuletlaw4.WireFields'. -/
def wireFieldsCard : Claim7 := { stood := { row := wireFieldsRow, standIns := [], harness := (true, "908e3df360d1e41579537dce56fdb07075043c8f42f0ee5c57533485f5e7903c"), looks := true }, kinds := [], alts := [], laidByText := true, laidKinds := [.sentinel, .sentinel, .sentinel], laidTests := true, laidLooks := .later }
def WireFieldsCardSaid : Prop := Claim7.holds Tryd.pinned (.plain (OpenSpec.ofChange wireFieldsSpec)) wireFieldsCard

/-- THE TIED CARD OF 'rivuletlaw4.WireTwins'. -/
def wireTwinsCard : Claim7 := { stood := { row := wireTwinsRow, standIns := [], harness := (true, "908e3df360d1e41579537dce56fdb07075043c8f42f0ee5c57533485f5e7903c"), looks := true }, kinds := [], alts := [], laidByText := true, laidKinds := [.sentinel, .sentinel, .sentinel], laidTests := true, laidLooks := .later }
def WireTwinsCardSaid : Prop := Claim7.holds Tryd.pinned (.plain (OpenSpec.ofChange wireTwinsSpec)) wireTwinsCard

/-- THE TIED CARD OF 'rivuletlaw4.WireSays'. -/
def wireSaysCard : Claim7 := { stood := { row := wireSaysRow, standIns := [], harness := (true, "908e3df360d1e41579537dce56fdb07075043c8f42f0ee5c57533485f5e7903c"), looks := true }, kinds := [], alts := [], laidByText := true, laidKinds := [.sentinel, .sentinel, .sentinel, .sentinel, .sentinel, .sentinel, .sentinel, .sentinel, .sentinel, .sentinel, .sentinel, .sentinel, .sentinel, .sentinel], laidTests := true, laidLooks := .later }
def WireSaysCardSaid : Prop := Claim7.holds Tryd.pinned (.plain (OpenSpec.ofChange wireSaysSpec)) wireSaysCard

/-- THE TIED CARD OF 'rivuletlaw4.WireBack'. -/
def wireBackCard : Claim7 := { stood := { row := wireBackRow, standIns := [], harness := (true, "908e3df360d1e41579537dce56fdb07075043c8f42f0ee5c57533485f5e7903c"), looks := true }, kinds := [], alts := [], laidByText := true, laidKinds := [.sentinel, .sentinel, .sentinel, .sentinel, .sentinel, .sentinel, .sentinel, .sentinel, .sentinel, .sentinel, .sentinel, .sentinel, .sentinel, .sentinel], laidTests := true, laidLooks := .later }
def WireBackCardSaid : Prop := Claim7.holds Tryd.pinned (.plain (OpenSpec.ofChange wireBackSpec)) wireBackCard

/-- THE TIED CARD OF 'rivuletlaw4.WireReads'. -/
def wireReadsCard : Claim7 := { stood := { row := wireReadsRow, standIns := [], harness := (true, "908e3df360d1e41579537dce56fdb07075043c8f42f0ee5c57533485f5e7903c"), looks := true }, kinds := [], alts := [], laidByText := true, laidKinds := [.sentinel, .sentinel, .sentinel, .sentinel, .sentinel, .sentinel], laidTests := true, laidLooks := .later }
def WireReadsCardSaid : Prop := Claim7.holds Tryd.pinned (.plain (OpenSpec.ofChange wireReadsSpec)) wireReadsCard

/-- THE SECOND FORM's CARD OF 'rivuletlaw3.IpSays'. -/
def ipSaysUptoCard : Claim7 := { stood := { row := ipSaysUptoRow, standIns := [], harness := (true, "908e3df360d1e41579537dce56fdb07075043c8f42f0ee5c57533485f5e7903c"), looks := true }, kinds := [], alts := [], laidByText := true, laidKinds := [.sentinel, .sentinel, .sentinel, .sentinel, .sentinel, .sentinel, .sentinel, .sentinel, .sentinel, .sentinel, .sentinel, .sentinel, .sentinel, .sentinel], laidTests := true, laidLooks := .later }
def IpSaysUptoCardSaid : Prop := Claim7.holds Tryd.pinned (.plain (OpenSpec.upto ipSaysSpec)) ipSaysUptoCard

/-- THE SECOND FORM's CARD OF 'rivuletlaw3.IpBack'. -/
def ipBackUptoCard : Claim7 := { stood := { row := ipBackUptoRow, standIns := [], harness := (true, "908e3df360d1e41579537dce56fdb07075043c8f42f0ee5c57533485f5e7903c"), looks := true }, kinds := [], alts := [], laidByText := true, laidKinds := [.sentinel, .sentinel, .sentinel, .sentinel, .sentinel, .sentinel, .sentinel, .sentinel, .sentinel, .sentinel, .sentinel, .sentinel, .sentinel, .sentinel], laidTests := true, laidLooks := .later }
def IpBackUptoCardSaid : Prop := Claim7.holds Tryd.pinned (.plain (OpenSpec.upto ipBackSpec)) ipBackUptoCard

/-- THE SECOND FORM's CARD OF 'rivuletlaw3.IpFields'. -/
def ipFieldsUptoCard : Claim7 := { stood := { row := ipFieldsUptoRow, standIns := [], harness := (true, "908e3df360d1e41579537dce56fdb07075043c8f42f0ee5c57533485f5e7903c"), looks := true }, kinds := [], alts := [], laidByText := true, laidKinds := [.sentinel, .sentinel, .sentinel, .sentinel], laidTests := true, laidLooks := .later }
def IpFieldsUptoCardSaid : Prop := Claim7.holds Tryd.pinned (.plain (OpenSpec.upto ipFieldsSpec)) ipFieldsUptoCard

/-- THE SECOND FORM's CARD OF 'rivuletlaw3.IpCut'. -/
def ipCutUptoCard : Claim7 := { stood := { row := ipCutUptoRow, standIns := [], harness := (true, "908e3df360d1e41579537dce56fdb07075043c8f42f0ee5c57533485f5e7903c"), looks := true }, kinds := [], alts := [], laidByText := true, laidKinds := [.sentinel, .sentinel, .sentinel, .sentinel], laidTests := true, laidLooks := .later }
def IpCutUptoCardSaid : Prop := Claim7.holds Tryd.pinned (.plain (OpenSpec.upto ipCutSpec)) ipCutUptoCard

/-- THE SECOND FORM's CARD OF 'rivuletlaw4.WireFields'. -/
def wireFieldsUptoCard : Claim7 := { stood := { row := wireFieldsUptoRow, standIns := [], harness := (true, "908e3df360d1e41579537dce56fdb07075043c8f42f0ee5c57533485f5e7903c"), looks := true }, kinds := [], alts := [], laidByText := true, laidKinds := [.sentinel, .sentinel, .sentinel], laidTests := true, laidLooks := .later }
def WireFieldsUptoCardSaid : Prop := Claim7.holds Tryd.pinned (.plain (OpenSpec.upto wireFieldsSpec)) wireFieldsUptoCard

/-- THE SECOND FORM's CARD OF 'rivuletlaw4.WireTwins'. -/
def wireTwinsUptoCard : Claim7 := { stood := { row := wireTwinsUptoRow, standIns := [], harness := (true, "908e3df360d1e41579537dce56fdb07075043c8f42f0ee5c57533485f5e7903c"), looks := true }, kinds := [], alts := [], laidByText := true, laidKinds := [.sentinel, .sentinel, .sentinel], laidTests := true, laidLooks := .later }
def WireTwinsUptoCardSaid : Prop := Claim7.holds Tryd.pinned (.plain (OpenSpec.upto wireTwinsSpec)) wireTwinsUptoCard

/-- THE SECOND FORM's CARD OF 'rivuletlaw4.WireSays'. -/
def wireSaysUptoCard : Claim7 := { stood := { row := wireSaysUptoRow, standIns := [], harness := (true, "908e3df360d1e41579537dce56fdb07075043c8f42f0ee5c57533485f5e7903c"), looks := true }, kinds := [], alts := [], laidByText := true, laidKinds := [.sentinel, .sentinel, .sentinel, .sentinel, .sentinel, .sentinel, .sentinel, .sentinel, .sentinel, .sentinel, .sentinel, .sentinel, .sentinel, .sentinel], laidTests := true, laidLooks := .later }
def WireSaysUptoCardSaid : Prop := Claim7.holds Tryd.pinned (.plain (OpenSpec.upto wireSaysSpec)) wireSaysUptoCard

/-- THE SECOND FORM's CARD OF 'rivuletlaw4.WireBack'. -/
def wireBackUptoCard : Claim7 := { stood := { row := wireBackUptoRow, standIns := [], harness := (true, "908e3df360d1e41579537dce56fdb07075043c8f42f0ee5c57533485f5e7903c"), looks := true }, kinds := [], alts := [], laidByText := true, laidKinds := [.sentinel, .sentinel, .sentinel, .sentinel, .sentinel, .sentinel, .sentinel, .sentinel, .sentinel, .sentinel, .sentinel, .sentinel, .sentinel, .sentinel], laidTests := true, laidLooks := .later }
def WireBackUptoCardSaid : Prop := Claim7.holds Tryd.pinned (.plain (OpenSpec.upto wireBackSpec)) wireBackUptoCard

/-- THE SECOND FORM's CARD OF 'rivuletlaw4.WireReads'. -/
def wireReadsUptoCard : Claim7 := { stood := { row := wireReadsUptoRow, standIns := [], harness := (true, "908e3df360d1e41579537dce56fdb07075043c8f42f0ee5c57533485f5e7903c"), looks := true }, kinds := [], alts := [], laidByText := true, laidKinds := [.sentinel, .sentinel, .sentinel, .sentinel, .sentinel, .sentinel], laidTests := true, laidLooks := .later }
def WireReadsUptoCardSaid : Prop := Claim7.holds Tryd.pinned (.plain (OpenSpec.upto wireReadsSpec)) wireReadsUptoCard
end Rows
end Go.Proofs.YtbgbplbkombfjaaDoor
