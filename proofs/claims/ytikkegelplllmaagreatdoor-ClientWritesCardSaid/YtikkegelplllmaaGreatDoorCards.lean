/-
  DERIVED. GIVEN WITH THE SEED: THE CARDS: each row of YtikkegelplllmaaGreatDoorRows.lean that lists a variable, with what it lists TIED to the program's text (the seventh form; the later family's looks); each row that meets fmt, with fmt's text TOLD by the authors' own Lean function (tested against real Go, not proved from fmt's source: count such statements apart). THE CARD IS WHAT COUNTS. Prove the row's statement (the work); the ties are given (YtikkegelplllmaaGreatDoorTie.lean); close each card by the builder's one call (the guide's Derived/Test/ToyasCard.lean, 'card_holds'). Laid BY PROGRAM, IN A SANDBOX (cutbox-door.mjs). By AI agents, Wed Nov 11 2026. No macro, syntax, notation, axiom, sorry.
-/
import Derived.Test.YtikkegelplllmaaGreatDoorRows
import GoSem.ClaimSeven
namespace Go.Proofs.YtikkegelplllmaaGreatDoor
namespace Rows

/-- THE TIED CARD OF 'holtlaw19.ClientWrites'. -/
def clientWritesCard : Claim7 := { stood := { row := clientWritesRow, standIns := [], harness := (true, "f4eec98776588dca81ef620558350302ef699c962e32c7f46b816f5a4ad8ed4f"), looks := false }, kinds := [], alts := [], laidByText := true, laidKinds := [.data, .pinned], laidTests := true, laidLooks := .later }
def ClientWritesCardSaid : Prop := Claim7.holds Tryz.pinned (.plain (OpenSpec.ofChange clientWritesSpec)) clientWritesCard

/-- THE TIED CARD OF 'holtlaw13.FinderFinds'. -/
def finderFindsCard : Claim7 := { stood := { row := finderFindsRow, standIns := [], harness := (true, "f4eec98776588dca81ef620558350302ef699c962e32c7f46b816f5a4ad8ed4f"), looks := false }, kinds := [], alts := [], laidByText := true, laidKinds := [.data, .pinned], laidTests := true, laidLooks := .later }
def FinderFindsCardSaid : Prop := Claim7.holds Tryz.pinned (.plain (OpenSpec.ofChange finderFindsSpec)) finderFindsCard

/-- THE TIED CARD OF 'holtlaw13.FinderFew'. -/
def finderFewCard : Claim7 := { stood := { row := finderFewRow, standIns := [], harness := (true, "f4eec98776588dca81ef620558350302ef699c962e32c7f46b816f5a4ad8ed4f"), looks := false }, kinds := [], alts := [], laidByText := true, laidKinds := [.data, .pinned], laidTests := true, laidLooks := .later }
def FinderFewCardSaid : Prop := Claim7.holds Tryz.pinned (.plain (OpenSpec.ofChange finderFewSpec)) finderFewCard

/-- THE TIED CARD OF 'holtlaw13.FinderStale'. -/
def finderStaleCard : Claim7 := { stood := { row := finderStaleRow, standIns := [], harness := (true, "f4eec98776588dca81ef620558350302ef699c962e32c7f46b816f5a4ad8ed4f"), looks := false }, kinds := [], alts := [], laidByText := true, laidKinds := [.data, .pinned], laidTests := true, laidLooks := .later }
def FinderStaleCardSaid : Prop := Claim7.holds Tryz.pinned (.plain (OpenSpec.ofChange finderStaleSpec)) finderStaleCard

/-- THE TIED CARD OF 'holtlaw13.FinderOld'. -/
def finderOldCard : Claim7 := { stood := { row := finderOldRow, standIns := [], harness := (true, "f4eec98776588dca81ef620558350302ef699c962e32c7f46b816f5a4ad8ed4f"), looks := false }, kinds := [], alts := [], laidByText := true, laidKinds := [.data, .pinned], laidTests := true, laidLooks := .later }
def FinderOldCardSaid : Prop := Claim7.holds Tryz.pinned (.plain (OpenSpec.ofChange finderOldSpec)) finderOldCard

/-- THE TIED CARD OF 'holtlaw13.FinderTwo'. -/
def finderTwoCard : Claim7 := { stood := { row := finderTwoRow, standIns := [], harness := (true, "f4eec98776588dca81ef620558350302ef699c962e32c7f46b816f5a4ad8ed4f"), looks := false }, kinds := [], alts := [], laidByText := true, laidKinds := [.data, .pinned], laidTests := true, laidLooks := .later }
def FinderTwoCardSaid : Prop := Claim7.holds Tryz.pinned (.plain (OpenSpec.ofChange finderTwoSpec)) finderTwoCard

/-- THE TIED CARD OF 'holtlaw19.ClientAdds'. -/
def clientAddsCard : Claim7 := { stood := { row := clientAddsRow, standIns := [], harness := (true, "f4eec98776588dca81ef620558350302ef699c962e32c7f46b816f5a4ad8ed4f"), looks := false }, kinds := [], alts := [], laidByText := true, laidKinds := [.data, .pinned], laidTests := true, laidLooks := .later }
def ClientAddsCardSaid : Prop := Claim7.holds Tryz.pinned (.plain (OpenSpec.ofChange clientAddsSpec)) clientAddsCard

/-- THE TIED CARD OF 'holtlaw19.ClientBound'. -/
def clientBoundCard : Claim7 := { stood := { row := clientBoundRow, standIns := [], harness := (true, "f4eec98776588dca81ef620558350302ef699c962e32c7f46b816f5a4ad8ed4f"), looks := false }, kinds := [], alts := [], laidByText := true, laidKinds := [.data, .pinned], laidTests := true, laidLooks := .later }
def ClientBoundCardSaid : Prop := Claim7.holds Tryz.pinned (.plain (OpenSpec.ofChange clientBoundSpec)) clientBoundCard

/-- THE TIED CARD OF 'holtlaw19.ClientPins'. -/
def clientPinsCard : Claim7 := { stood := { row := clientPinsRow, standIns := [], harness := (true, "f4eec98776588dca81ef620558350302ef699c962e32c7f46b816f5a4ad8ed4f"), looks := false }, kinds := [], alts := [], laidByText := true, laidKinds := [.data, .pinned], laidTests := true, laidLooks := .later }
def ClientPinsCardSaid : Prop := Claim7.holds Tryz.pinned (.plain (OpenSpec.ofChange clientPinsSpec)) clientPinsCard

/-- THE TIED CARD OF 'holtlaw19.ClientReads'. -/
def clientReadsCard : Claim7 := { stood := { row := clientReadsRow, standIns := [], harness := (true, "f4eec98776588dca81ef620558350302ef699c962e32c7f46b816f5a4ad8ed4f"), looks := false }, kinds := [], alts := [], laidByText := true, laidKinds := [.data, .pinned], laidTests := true, laidLooks := .later }
def ClientReadsCardSaid : Prop := Claim7.holds Tryz.pinned (.plain (OpenSpec.ofChange clientReadsSpec)) clientReadsCard

/-- THE SECOND FORM's CARD OF 'holtlaw19.ClientWrites'. -/
def clientWritesUptoCard : Claim7 := { stood := { row := clientWritesUptoRow, standIns := [], harness := (true, "f4eec98776588dca81ef620558350302ef699c962e32c7f46b816f5a4ad8ed4f"), looks := false }, kinds := [], alts := [], laidByText := true, laidKinds := [.data, .pinned], laidTests := true, laidLooks := .later }
def ClientWritesUptoCardSaid : Prop := Claim7.holds Tryz.pinned (.plain (OpenSpec.upto clientWritesSpec)) clientWritesUptoCard

/-- THE SECOND FORM's CARD OF 'holtlaw13.FinderFinds'. -/
def finderFindsUptoCard : Claim7 := { stood := { row := finderFindsUptoRow, standIns := [], harness := (true, "f4eec98776588dca81ef620558350302ef699c962e32c7f46b816f5a4ad8ed4f"), looks := false }, kinds := [], alts := [], laidByText := true, laidKinds := [.data, .pinned], laidTests := true, laidLooks := .later }
def FinderFindsUptoCardSaid : Prop := Claim7.holds Tryz.pinned (.plain (OpenSpec.upto finderFindsSpec)) finderFindsUptoCard

/-- THE SECOND FORM's CARD OF 'holtlaw13.FinderFew'. -/
def finderFewUptoCard : Claim7 := { stood := { row := finderFewUptoRow, standIns := [], harness := (true, "f4eec98776588dca81ef620558350302ef699c962e32c7f46b816f5a4ad8ed4f"), looks := false }, kinds := [], alts := [], laidByText := true, laidKinds := [.data, .pinned], laidTests := true, laidLooks := .later }
def FinderFewUptoCardSaid : Prop := Claim7.holds Tryz.pinned (.plain (OpenSpec.upto finderFewSpec)) finderFewUptoCard

/-- THE SECOND FORM's CARD OF 'holtlaw13.FinderStale'. -/
def finderStaleUptoCard : Claim7 := { stood := { row := finderStaleUptoRow, standIns := [], harness := (true, "f4eec98776588dca81ef620558350302ef699c962e32c7f46b816f5a4ad8ed4f"), looks := false }, kinds := [], alts := [], laidByText := true, laidKinds := [.data, .pinned], laidTests := true, laidLooks := .later }
def FinderStaleUptoCardSaid : Prop := Claim7.holds Tryz.pinned (.plain (OpenSpec.upto finderStaleSpec)) finderStaleUptoCard

/-- THE SECOND FORM's CARD OF 'holtlaw13.FinderOld'. -/
def finderOldUptoCard : Claim7 := { stood := { row := finderOldUptoRow, standIns := [], harness := (true, "f4eec98776588dca81ef620558350302ef699c962e32c7f46b816f5a4ad8ed4f"), looks := false }, kinds := [], alts := [], laidByText := true, laidKinds := [.data, .pinned], laidTests := true, laidLooks := .later }
def FinderOldUptoCardSaid : Prop := Claim7.holds Tryz.pinned (.plain (OpenSpec.upto finderOldSpec)) finderOldUptoCard

/-- THE SECOND FORM's CARD OF 'holtlaw13.FinderTwo'. -/
def finderTwoUptoCard : Claim7 := { stood := { row := finderTwoUptoRow, standIns := [], harness := (true, "f4eec98776588dca81ef620558350302ef699c962e32c7f46b816f5a4ad8ed4f"), looks := false }, kinds := [], alts := [], laidByText := true, laidKinds := [.data, .pinned], laidTests := true, laidLooks := .later }
def FinderTwoUptoCardSaid : Prop := Claim7.holds Tryz.pinned (.plain (OpenSpec.upto finderTwoSpec)) finderTwoUptoCard

/-- THE SECOND FORM's CARD OF 'holtlaw19.ClientAdds'. -/
def clientAddsUptoCard : Claim7 := { stood := { row := clientAddsUptoRow, standIns := [], harness := (true, "f4eec98776588dca81ef620558350302ef699c962e32c7f46b816f5a4ad8ed4f"), looks := false }, kinds := [], alts := [], laidByText := true, laidKinds := [.data, .pinned], laidTests := true, laidLooks := .later }
def ClientAddsUptoCardSaid : Prop := Claim7.holds Tryz.pinned (.plain (OpenSpec.upto clientAddsSpec)) clientAddsUptoCard

/-- THE SECOND FORM's CARD OF 'holtlaw19.ClientBound'. -/
def clientBoundUptoCard : Claim7 := { stood := { row := clientBoundUptoRow, standIns := [], harness := (true, "f4eec98776588dca81ef620558350302ef699c962e32c7f46b816f5a4ad8ed4f"), looks := false }, kinds := [], alts := [], laidByText := true, laidKinds := [.data, .pinned], laidTests := true, laidLooks := .later }
def ClientBoundUptoCardSaid : Prop := Claim7.holds Tryz.pinned (.plain (OpenSpec.upto clientBoundSpec)) clientBoundUptoCard

/-- THE SECOND FORM's CARD OF 'holtlaw19.ClientPins'. -/
def clientPinsUptoCard : Claim7 := { stood := { row := clientPinsUptoRow, standIns := [], harness := (true, "f4eec98776588dca81ef620558350302ef699c962e32c7f46b816f5a4ad8ed4f"), looks := false }, kinds := [], alts := [], laidByText := true, laidKinds := [.data, .pinned], laidTests := true, laidLooks := .later }
def ClientPinsUptoCardSaid : Prop := Claim7.holds Tryz.pinned (.plain (OpenSpec.upto clientPinsSpec)) clientPinsUptoCard

/-- THE SECOND FORM's CARD OF 'holtlaw19.ClientReads'. -/
def clientReadsUptoCard : Claim7 := { stood := { row := clientReadsUptoRow, standIns := [], harness := (true, "f4eec98776588dca81ef620558350302ef699c962e32c7f46b816f5a4ad8ed4f"), looks := false }, kinds := [], alts := [], laidByText := true, laidKinds := [.data, .pinned], laidTests := true, laidLooks := .later }
def ClientReadsUptoCardSaid : Prop := Claim7.holds Tryz.pinned (.plain (OpenSpec.upto clientReadsSpec)) clientReadsUptoCard
end Rows
end Go.Proofs.YtikkegelplllmaaGreatDoor
