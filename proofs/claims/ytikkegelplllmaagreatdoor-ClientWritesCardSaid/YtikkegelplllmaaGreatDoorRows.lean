/-
  NARROWER THAN 'FOR EVERY INPUT', by the rows' own cells (each row's printed sentence says how): ClientWrites: laid · FinderFinds: laid · FinderFew: laid · FinderStale: laid · FinderOld: laid · FinderTwo: laid · ClientAdds: laid · ClientBound: laid · ClientPins: laid · ClientReads: laid.
  DERIVED. THE GIVEN ROWS OF THIS SEAT. 10 by the template 'for every input the law returns true; each argument reads behind the call as it read before'; 0 by the template 'total and deterministic' (their statements: YtikkegelplllmaaGreatDoorTotals.lean).
  GIVEN WITH THE SEED: the statements are not yours to turn. If you find one false, say at which input.
  Laid BY PROGRAM, IN A SANDBOX (cutbox-rows.mjs): the forced cells as the released guide's own fill.sh prints them over the translation 756530a1c35ed496… (all of the seat's roots in one cut). By AI agents, Wed Nov 11 2026. No macro, syntax, notation, axiom, sorry.
-/
import Derived.Test.YtikkegelplllmaaGreatDoorChecked
import GoSem.PinnedTables
import GoSem.Claim
import GoSem.ClaimJoined
import GoSem.ClaimMapViews
import Derived.JoinedTies
import Derived.KernelRfl
namespace Go.Proofs.YtikkegelplllmaaGreatDoor
/- THE CELL 'sum', in the pinned program and in every row, IS THE sha256 OF THE DUMP (.gsa) THAT YtikkegelplllmaaGreatDoorProg.lean LOADS. Nothing in Lean hashes anything: it is a label: what it is worth is what the hold of that sum in a sandbox is worth. -/
noncomputable def Tryz.pinned : Pinned := { name := "ytikkegelplllmaagreatdoor", sum := "756530a1c35ed496b9ecc2511782b5b3eb9ba718cf2654bf16b0d089a8b95eac", checked := Tryz.checked }
namespace Rows
def none {H : Type} : Left H := { results := [], args := [] }

/- WHAT THE LISTED PACKAGE-LEVEL VARIABLES READ AS WHEN THE CALL BEGINS. Each datum BY PROGRAM (the guide's laid-datum.mjs) off the statement by which the dump's own 'gosem.cut.vars' lays the variable. In a bare row this is a premise. The card (YtikkegelplllmaaGreatDoorCards.lean) ties it to the program's text. -/
def laid_unicode_utf8_acceptRanges {H : Type} : DataW H := .agg [.agg [.lit (.int .u8 128), .lit (.int .u8 191)], .agg [.lit (.int .u8 160), .lit (.int .u8 191)], .agg [.lit (.int .u8 128), .lit (.int .u8 159)], .agg [.lit (.int .u8 144), .lit (.int .u8 191)], .agg [.lit (.int .u8 128), .lit (.int .u8 143)], .agg [.lit (.int .u8 0), .lit (.int .u8 0)], .agg [.lit (.int .u8 0), .lit (.int .u8 0)], .agg [.lit (.int .u8 0), .lit (.int .u8 0)], .agg [.lit (.int .u8 0), .lit (.int .u8 0)], .agg [.lit (.int .u8 0), .lit (.int .u8 0)], .agg [.lit (.int .u8 0), .lit (.int .u8 0)], .agg [.lit (.int .u8 0), .lit (.int .u8 0)], .agg [.lit (.int .u8 0), .lit (.int .u8 0)], .agg [.lit (.int .u8 0), .lit (.int .u8 0)], .agg [.lit (.int .u8 0), .lit (.int .u8 0)], .agg [.lit (.int .u8 0), .lit (.int .u8 0)]]
/-- One of Go's own tables, pinned by name: the form's constant. -/
def laid_unicode_utf8_first : DataW Unit := Go.Pinned.utf8First

/-- 'holtlaw19.ClientWrites': WHATEVER THE INPUT: true; the input reads as it did. -/
def clientWritesSpec : ChangeSpec := { name := "clientWrites", fn := fun _ => fun
  | [d1, d2, d3, d4] => { results := [.lit (.bool true)], args := [d1, d2, d3, d4] }
  | _ => none }
def clientWritesRow : OpenClaim := { program := "ytikkegelplllmaagreatdoor", sum := "756530a1c35ed496b9ecc2511782b5b3eb9ba718cf2654bf16b0d089a8b95eac", func := "holt/holtlaw19.ClientWrites", spec := "clientWrites", inPlace := ["internal/bytealg.CountString", "internal/bytealg.IndexByteString", "internal/bytealg.IndexString"], unfollowed := true, recurses := true, named := ["unicode/utf8.first", "unicode/utf8.acceptRanges", "internal/bytealg.MaxLen"], apart := false, laid := [("unicode/utf8.acceptRanges", laid_unicode_utf8_acceptRanges), ("unicode/utf8.first", laid_unicode_utf8_first)] }
def ClientWritesSaid : Prop := clientWritesRow.holds Tryz.pinned (OpenSpec.ofChange clientWritesSpec)

/-- ITS FALSE NEIGHBOUR: 'it returns false'. Refute it at one input. -/
def clientWritesWrong : ChangeSpec := { name := "clientWrites", fn := fun _ => fun
  | [d1, d2, d3, d4] => { results := [.lit (.bool false)], args := [d1, d2, d3, d4] }
  | _ => none }
def ClientWritesWrongFalsely : Prop := clientWritesRow.holds Tryz.pinned (OpenSpec.ofChange clientWritesWrong)

/-- 'holtlaw13.FinderFinds': WHATEVER THE INPUT: true; the input reads as it did. -/
def finderFindsSpec : ChangeSpec := { name := "finderFinds", fn := fun _ => fun
  | [d1, d2, d3, d4] => { results := [.lit (.bool true)], args := [d1, d2, d3, d4] }
  | _ => none }
def finderFindsRow : OpenClaim := { program := "ytikkegelplllmaagreatdoor", sum := "756530a1c35ed496b9ecc2511782b5b3eb9ba718cf2654bf16b0d089a8b95eac", func := "holt/holtlaw13.FinderFinds", spec := "finderFinds", inPlace := ["internal/bytealg.CountString", "internal/bytealg.IndexByteString", "internal/bytealg.IndexString"], unfollowed := true, recurses := true, named := ["unicode/utf8.first", "unicode/utf8.acceptRanges", "internal/bytealg.MaxLen"], apart := false, laid := [("unicode/utf8.acceptRanges", laid_unicode_utf8_acceptRanges), ("unicode/utf8.first", laid_unicode_utf8_first)] }
def FinderFindsSaid : Prop := finderFindsRow.holds Tryz.pinned (OpenSpec.ofChange finderFindsSpec)

/-- ITS FALSE NEIGHBOUR: 'it returns false'. Refute it at one input. -/
def finderFindsWrong : ChangeSpec := { name := "finderFinds", fn := fun _ => fun
  | [d1, d2, d3, d4] => { results := [.lit (.bool false)], args := [d1, d2, d3, d4] }
  | _ => none }
def FinderFindsWrongFalsely : Prop := finderFindsRow.holds Tryz.pinned (OpenSpec.ofChange finderFindsWrong)

/-- 'holtlaw13.FinderFew': WHATEVER THE INPUT: true; the input reads as it did. -/
def finderFewSpec : ChangeSpec := { name := "finderFew", fn := fun _ => fun
  | [d1, d2, d3] => { results := [.lit (.bool true)], args := [d1, d2, d3] }
  | _ => none }
def finderFewRow : OpenClaim := { program := "ytikkegelplllmaagreatdoor", sum := "756530a1c35ed496b9ecc2511782b5b3eb9ba718cf2654bf16b0d089a8b95eac", func := "holt/holtlaw13.FinderFew", spec := "finderFew", inPlace := ["internal/bytealg.CountString", "internal/bytealg.IndexByteString", "internal/bytealg.IndexString"], unfollowed := true, recurses := true, named := ["unicode/utf8.first", "unicode/utf8.acceptRanges", "internal/bytealg.MaxLen"], apart := false, laid := [("unicode/utf8.acceptRanges", laid_unicode_utf8_acceptRanges), ("unicode/utf8.first", laid_unicode_utf8_first)] }
def FinderFewSaid : Prop := finderFewRow.holds Tryz.pinned (OpenSpec.ofChange finderFewSpec)

/-- ITS FALSE NEIGHBOUR: 'it returns false'. Refute it at one input. -/
def finderFewWrong : ChangeSpec := { name := "finderFew", fn := fun _ => fun
  | [d1, d2, d3] => { results := [.lit (.bool false)], args := [d1, d2, d3] }
  | _ => none }
def FinderFewWrongFalsely : Prop := finderFewRow.holds Tryz.pinned (OpenSpec.ofChange finderFewWrong)

/-- 'holtlaw13.FinderStale': WHATEVER THE INPUT: true; the input reads as it did. -/
def finderStaleSpec : ChangeSpec := { name := "finderStale", fn := fun _ => fun
  | [d1, d2, d3, d4] => { results := [.lit (.bool true)], args := [d1, d2, d3, d4] }
  | _ => none }
def finderStaleRow : OpenClaim := { program := "ytikkegelplllmaagreatdoor", sum := "756530a1c35ed496b9ecc2511782b5b3eb9ba718cf2654bf16b0d089a8b95eac", func := "holt/holtlaw13.FinderStale", spec := "finderStale", inPlace := ["internal/bytealg.CountString", "internal/bytealg.IndexByteString", "internal/bytealg.IndexString"], unfollowed := true, recurses := true, named := ["unicode/utf8.first", "unicode/utf8.acceptRanges", "internal/bytealg.MaxLen"], apart := false, laid := [("unicode/utf8.acceptRanges", laid_unicode_utf8_acceptRanges), ("unicode/utf8.first", laid_unicode_utf8_first)] }
def FinderStaleSaid : Prop := finderStaleRow.holds Tryz.pinned (OpenSpec.ofChange finderStaleSpec)

/-- ITS FALSE NEIGHBOUR: 'it returns false'. Refute it at one input. -/
def finderStaleWrong : ChangeSpec := { name := "finderStale", fn := fun _ => fun
  | [d1, d2, d3, d4] => { results := [.lit (.bool false)], args := [d1, d2, d3, d4] }
  | _ => none }
def FinderStaleWrongFalsely : Prop := finderStaleRow.holds Tryz.pinned (OpenSpec.ofChange finderStaleWrong)

/-- 'holtlaw13.FinderOld': WHATEVER THE INPUT: true; the input reads as it did. -/
def finderOldSpec : ChangeSpec := { name := "finderOld", fn := fun _ => fun
  | [d1, d2, d3, d4] => { results := [.lit (.bool true)], args := [d1, d2, d3, d4] }
  | _ => none }
def finderOldRow : OpenClaim := { program := "ytikkegelplllmaagreatdoor", sum := "756530a1c35ed496b9ecc2511782b5b3eb9ba718cf2654bf16b0d089a8b95eac", func := "holt/holtlaw13.FinderOld", spec := "finderOld", inPlace := ["internal/bytealg.CountString", "internal/bytealg.IndexByteString", "internal/bytealg.IndexString"], unfollowed := true, recurses := true, named := ["unicode/utf8.first", "unicode/utf8.acceptRanges", "internal/bytealg.MaxLen"], apart := false, laid := [("unicode/utf8.acceptRanges", laid_unicode_utf8_acceptRanges), ("unicode/utf8.first", laid_unicode_utf8_first)] }
def FinderOldSaid : Prop := finderOldRow.holds Tryz.pinned (OpenSpec.ofChange finderOldSpec)

/-- ITS FALSE NEIGHBOUR: 'it returns false'. Refute it at one input. -/
def finderOldWrong : ChangeSpec := { name := "finderOld", fn := fun _ => fun
  | [d1, d2, d3, d4] => { results := [.lit (.bool false)], args := [d1, d2, d3, d4] }
  | _ => none }
def FinderOldWrongFalsely : Prop := finderOldRow.holds Tryz.pinned (OpenSpec.ofChange finderOldWrong)

/-- 'holtlaw13.FinderTwo': WHATEVER THE INPUT: true; the input reads as it did. -/
def finderTwoSpec : ChangeSpec := { name := "finderTwo", fn := fun _ => fun
  | [d1, d2, d3, d4] => { results := [.lit (.bool true)], args := [d1, d2, d3, d4] }
  | _ => none }
def finderTwoRow : OpenClaim := { program := "ytikkegelplllmaagreatdoor", sum := "756530a1c35ed496b9ecc2511782b5b3eb9ba718cf2654bf16b0d089a8b95eac", func := "holt/holtlaw13.FinderTwo", spec := "finderTwo", inPlace := ["internal/bytealg.CountString", "internal/bytealg.IndexByteString", "internal/bytealg.IndexString"], unfollowed := true, recurses := true, named := ["unicode/utf8.first", "unicode/utf8.acceptRanges", "internal/bytealg.MaxLen"], apart := false, laid := [("unicode/utf8.acceptRanges", laid_unicode_utf8_acceptRanges), ("unicode/utf8.first", laid_unicode_utf8_first)] }
def FinderTwoSaid : Prop := finderTwoRow.holds Tryz.pinned (OpenSpec.ofChange finderTwoSpec)

/-- ITS FALSE NEIGHBOUR: 'it returns false'. Refute it at one input. -/
def finderTwoWrong : ChangeSpec := { name := "finderTwo", fn := fun _ => fun
  | [d1, d2, d3, d4] => { results := [.lit (.bool false)], args := [d1, d2, d3, d4] }
  | _ => none }
def FinderTwoWrongFalsely : Prop := finderTwoRow.holds Tryz.pinned (OpenSpec.ofChange finderTwoWrong)

/-- 'holtlaw19.ClientAdds': WHATEVER THE INPUT: true; the input reads as it did. -/
def clientAddsSpec : ChangeSpec := { name := "clientAdds", fn := fun _ => fun
  | [d1, d2, d3] => { results := [.lit (.bool true)], args := [d1, d2, d3] }
  | _ => none }
def clientAddsRow : OpenClaim := { program := "ytikkegelplllmaagreatdoor", sum := "756530a1c35ed496b9ecc2511782b5b3eb9ba718cf2654bf16b0d089a8b95eac", func := "holt/holtlaw19.ClientAdds", spec := "clientAdds", inPlace := ["internal/bytealg.CountString", "internal/bytealg.IndexByteString", "internal/bytealg.IndexString"], unfollowed := true, recurses := true, named := ["unicode/utf8.first", "unicode/utf8.acceptRanges", "internal/bytealg.MaxLen"], apart := false, laid := [("unicode/utf8.acceptRanges", laid_unicode_utf8_acceptRanges), ("unicode/utf8.first", laid_unicode_utf8_first)] }
def ClientAddsSaid : Prop := clientAddsRow.holds Tryz.pinned (OpenSpec.ofChange clientAddsSpec)

/-- ITS FALSE NEIGHBOUR: 'it returns false'. Refute it at one input. -/
def clientAddsWrong : ChangeSpec := { name := "clientAdds", fn := fun _ => fun
  | [d1, d2, d3] => { results := [.lit (.bool false)], args := [d1, d2, d3] }
  | _ => none }
def ClientAddsWrongFalsely : Prop := clientAddsRow.holds Tryz.pinned (OpenSpec.ofChange clientAddsWrong)

/-- 'holtlaw19.ClientBound': WHATEVER THE INPUT: true; the input reads as it did. -/
def clientBoundSpec : ChangeSpec := { name := "clientBound", fn := fun _ => fun
  | [d1, d2, d3, d4] => { results := [.lit (.bool true)], args := [d1, d2, d3, d4] }
  | _ => none }
def clientBoundRow : OpenClaim := { program := "ytikkegelplllmaagreatdoor", sum := "756530a1c35ed496b9ecc2511782b5b3eb9ba718cf2654bf16b0d089a8b95eac", func := "holt/holtlaw19.ClientBound", spec := "clientBound", inPlace := ["internal/bytealg.CountString", "internal/bytealg.IndexByteString", "internal/bytealg.IndexString"], unfollowed := true, recurses := true, named := ["unicode/utf8.first", "unicode/utf8.acceptRanges", "internal/bytealg.MaxLen"], apart := false, laid := [("unicode/utf8.acceptRanges", laid_unicode_utf8_acceptRanges), ("unicode/utf8.first", laid_unicode_utf8_first)] }
def ClientBoundSaid : Prop := clientBoundRow.holds Tryz.pinned (OpenSpec.ofChange clientBoundSpec)

/-- ITS FALSE NEIGHBOUR: 'it returns false'. Refute it at one input. -/
def clientBoundWrong : ChangeSpec := { name := "clientBound", fn := fun _ => fun
  | [d1, d2, d3, d4] => { results := [.lit (.bool false)], args := [d1, d2, d3, d4] }
  | _ => none }
def ClientBoundWrongFalsely : Prop := clientBoundRow.holds Tryz.pinned (OpenSpec.ofChange clientBoundWrong)

/-- 'holtlaw19.ClientPins': WHATEVER THE INPUT: true; the input reads as it did. -/
def clientPinsSpec : ChangeSpec := { name := "clientPins", fn := fun _ => fun
  | [d1, d2, d3, d4] => { results := [.lit (.bool true)], args := [d1, d2, d3, d4] }
  | _ => none }
def clientPinsRow : OpenClaim := { program := "ytikkegelplllmaagreatdoor", sum := "756530a1c35ed496b9ecc2511782b5b3eb9ba718cf2654bf16b0d089a8b95eac", func := "holt/holtlaw19.ClientPins", spec := "clientPins", inPlace := ["internal/bytealg.CountString", "internal/bytealg.IndexByteString", "internal/bytealg.IndexString"], unfollowed := true, recurses := true, named := ["unicode/utf8.first", "unicode/utf8.acceptRanges", "internal/bytealg.MaxLen"], apart := false, laid := [("unicode/utf8.acceptRanges", laid_unicode_utf8_acceptRanges), ("unicode/utf8.first", laid_unicode_utf8_first)] }
def ClientPinsSaid : Prop := clientPinsRow.holds Tryz.pinned (OpenSpec.ofChange clientPinsSpec)

/-- ITS FALSE NEIGHBOUR: 'it returns false'. Refute it at one input. -/
def clientPinsWrong : ChangeSpec := { name := "clientPins", fn := fun _ => fun
  | [d1, d2, d3, d4] => { results := [.lit (.bool false)], args := [d1, d2, d3, d4] }
  | _ => none }
def ClientPinsWrongFalsely : Prop := clientPinsRow.holds Tryz.pinned (OpenSpec.ofChange clientPinsWrong)

/-- 'holtlaw19.ClientReads': WHATEVER THE INPUT: true; the input reads as it did. -/
def clientReadsSpec : ChangeSpec := { name := "clientReads", fn := fun _ => fun
  | [d1, d2, d3, d4, d5] => { results := [.lit (.bool true)], args := [d1, d2, d3, d4, d5] }
  | _ => none }
def clientReadsRow : OpenClaim := { program := "ytikkegelplllmaagreatdoor", sum := "756530a1c35ed496b9ecc2511782b5b3eb9ba718cf2654bf16b0d089a8b95eac", func := "holt/holtlaw19.ClientReads", spec := "clientReads", inPlace := ["internal/bytealg.CountString", "internal/bytealg.IndexByteString", "internal/bytealg.IndexString"], unfollowed := true, recurses := true, named := ["unicode/utf8.first", "unicode/utf8.acceptRanges", "internal/bytealg.MaxLen"], apart := false, laid := [("unicode/utf8.acceptRanges", laid_unicode_utf8_acceptRanges), ("unicode/utf8.first", laid_unicode_utf8_first)] }
def ClientReadsSaid : Prop := clientReadsRow.holds Tryz.pinned (OpenSpec.ofChange clientReadsSpec)

/-- ITS FALSE NEIGHBOUR: 'it returns false'. Refute it at one input. -/
def clientReadsWrong : ChangeSpec := { name := "clientReads", fn := fun _ => fun
  | [d1, d2, d3, d4, d5] => { results := [.lit (.bool false)], args := [d1, d2, d3, d4, d5] }
  | _ => none }
def ClientReadsWrongFalsely : Prop := clientReadsRow.holds Tryz.pinned (OpenSpec.ofChange clientReadsWrong)

/- THE SECOND FORM. 'bulk': how many values and letters a reading holds, each counted each time it is reached (what is shared counts as often as it is met; a slice's spare places count too). A statement '..UptoSaid' is the law's where the arguments, and the package variables that the reading takes, are together of bulk at most 1048576: NARROWER than '..Said'. Prove '..Said' where nothing that the law and all that it calls make is longer than what came in: it says more and counts as full. Else prove '..UptoSaid'. A law counts once. -/
mutual
def uptoBulk {H : Type} : DataW H → Nat
  | .lit (.string bytes) => bytes.length + 1
  | .lit _ => 1
  | .nil => 1
  | .ptr d => uptoBulk d + 1
  | .slice elems spare => uptoBulkAll elems + uptoBulkAll spare + 1
  | .agg parts => uptoBulkAll parts + 1
  | .iface _ d => uptoBulk d + 1
  | .map entries => uptoBulkEntries entries + 1
  | .held _ => 1
def uptoBulkAll {H : Type} : List (DataW H) → Nat
  | [] => 0
  | d :: r => uptoBulk d + uptoBulkAll r
def uptoBulkEntries {H : Type} : List (Lit × DataW H) → Nat
  | [] => 0
  | x :: r => uptoBulkEntry x + uptoBulkEntries r
def uptoBulkEntry {H : Type} : Lit × DataW H → Nat
  | (.string bytes, d) => bytes.length + uptoBulk d + 1
  | (_, d) => uptoBulk d + 1
 end
def uptoSmall : (H : Type) → List (DataW H) → Bool := fun _ ds => decide (uptoBulkAll ds ≤ 1048576)
def OpenSpec.upto (s : _root_.Go.ChangeSpec) : _root_.Go.OpenSpec := { _root_.Go.OpenSpec.ofChange s with cond := some uptoSmall }

/-- 'holtlaw19.ClientWrites', WHERE WHAT IT READS IS OF BULK AT MOST 1048576: true; the input reads as it did. -/
def clientWritesUptoRow : OpenClaim := { program := "ytikkegelplllmaagreatdoor", sum := "756530a1c35ed496b9ecc2511782b5b3eb9ba718cf2654bf16b0d089a8b95eac", func := "holt/holtlaw19.ClientWrites", spec := "clientWrites", inPlace := ["internal/bytealg.CountString", "internal/bytealg.IndexByteString", "internal/bytealg.IndexString"], unfollowed := true, recurses := true, named := ["unicode/utf8.first", "unicode/utf8.acceptRanges", "internal/bytealg.MaxLen"], apart := false, laid := [("unicode/utf8.acceptRanges", laid_unicode_utf8_acceptRanges), ("unicode/utf8.first", laid_unicode_utf8_first)], narrowed := true }
def ClientWritesUptoSaid : Prop := clientWritesUptoRow.holds Tryz.pinned (OpenSpec.upto clientWritesSpec)

/-- 'holtlaw13.FinderFinds', WHERE WHAT IT READS IS OF BULK AT MOST 1048576: true; the input reads as it did. -/
def finderFindsUptoRow : OpenClaim := { program := "ytikkegelplllmaagreatdoor", sum := "756530a1c35ed496b9ecc2511782b5b3eb9ba718cf2654bf16b0d089a8b95eac", func := "holt/holtlaw13.FinderFinds", spec := "finderFinds", inPlace := ["internal/bytealg.CountString", "internal/bytealg.IndexByteString", "internal/bytealg.IndexString"], unfollowed := true, recurses := true, named := ["unicode/utf8.first", "unicode/utf8.acceptRanges", "internal/bytealg.MaxLen"], apart := false, laid := [("unicode/utf8.acceptRanges", laid_unicode_utf8_acceptRanges), ("unicode/utf8.first", laid_unicode_utf8_first)], narrowed := true }
def FinderFindsUptoSaid : Prop := finderFindsUptoRow.holds Tryz.pinned (OpenSpec.upto finderFindsSpec)

/-- 'holtlaw13.FinderFew', WHERE WHAT IT READS IS OF BULK AT MOST 1048576: true; the input reads as it did. -/
def finderFewUptoRow : OpenClaim := { program := "ytikkegelplllmaagreatdoor", sum := "756530a1c35ed496b9ecc2511782b5b3eb9ba718cf2654bf16b0d089a8b95eac", func := "holt/holtlaw13.FinderFew", spec := "finderFew", inPlace := ["internal/bytealg.CountString", "internal/bytealg.IndexByteString", "internal/bytealg.IndexString"], unfollowed := true, recurses := true, named := ["unicode/utf8.first", "unicode/utf8.acceptRanges", "internal/bytealg.MaxLen"], apart := false, laid := [("unicode/utf8.acceptRanges", laid_unicode_utf8_acceptRanges), ("unicode/utf8.first", laid_unicode_utf8_first)], narrowed := true }
def FinderFewUptoSaid : Prop := finderFewUptoRow.holds Tryz.pinned (OpenSpec.upto finderFewSpec)

/-- 'holtlaw13.FinderStale', WHERE WHAT IT READS IS OF BULK AT MOST 1048576: true; the input reads as it did. -/
def finderStaleUptoRow : OpenClaim := { program := "ytikkegelplllmaagreatdoor", sum := "756530a1c35ed496b9ecc2511782b5b3eb9ba718cf2654bf16b0d089a8b95eac", func := "holt/holtlaw13.FinderStale", spec := "finderStale", inPlace := ["internal/bytealg.CountString", "internal/bytealg.IndexByteString", "internal/bytealg.IndexString"], unfollowed := true, recurses := true, named := ["unicode/utf8.first", "unicode/utf8.acceptRanges", "internal/bytealg.MaxLen"], apart := false, laid := [("unicode/utf8.acceptRanges", laid_unicode_utf8_acceptRanges), ("unicode/utf8.first", laid_unicode_utf8_first)], narrowed := true }
def FinderStaleUptoSaid : Prop := finderStaleUptoRow.holds Tryz.pinned (OpenSpec.upto finderStaleSpec)

/-- 'holtlaw13.FinderOld', WHERE WHAT IT READS IS OF BULK AT MOST 1048576: true; the input reads as it did. -/
def finderOldUptoRow : OpenClaim := { program := "ytikkegelplllmaagreatdoor", sum := "756530a1c35ed496b9ecc2511782b5b3eb9ba718cf2654bf16b0d089a8b95eac", func := "holt/holtlaw13.FinderOld", spec := "finderOld", inPlace := ["internal/bytealg.CountString", "internal/bytealg.IndexByteString", "internal/bytealg.IndexString"], unfollowed := true, recurses := true, named := ["unicode/utf8.first", "unicode/utf8.acceptRanges", "internal/bytealg.MaxLen"], apart := false, laid := [("unicode/utf8.acceptRanges", laid_unicode_utf8_acceptRanges), ("unicode/utf8.first", laid_unicode_utf8_first)], narrowed := true }
def FinderOldUptoSaid : Prop := finderOldUptoRow.holds Tryz.pinned (OpenSpec.upto finderOldSpec)

/-- 'holtlaw13.FinderTwo', WHERE WHAT IT READS IS OF BULK AT MOST 1048576: true; the input reads as it did. -/
def finderTwoUptoRow : OpenClaim := { program := "ytikkegelplllmaagreatdoor", sum := "756530a1c35ed496b9ecc2511782b5b3eb9ba718cf2654bf16b0d089a8b95eac", func := "holt/holtlaw13.FinderTwo", spec := "finderTwo", inPlace := ["internal/bytealg.CountString", "internal/bytealg.IndexByteString", "internal/bytealg.IndexString"], unfollowed := true, recurses := true, named := ["unicode/utf8.first", "unicode/utf8.acceptRanges", "internal/bytealg.MaxLen"], apart := false, laid := [("unicode/utf8.acceptRanges", laid_unicode_utf8_acceptRanges), ("unicode/utf8.first", laid_unicode_utf8_first)], narrowed := true }
def FinderTwoUptoSaid : Prop := finderTwoUptoRow.holds Tryz.pinned (OpenSpec.upto finderTwoSpec)

/-- 'holtlaw19.ClientAdds', WHERE WHAT IT READS IS OF BULK AT MOST 1048576: true; the input reads as it did. -/
def clientAddsUptoRow : OpenClaim := { program := "ytikkegelplllmaagreatdoor", sum := "756530a1c35ed496b9ecc2511782b5b3eb9ba718cf2654bf16b0d089a8b95eac", func := "holt/holtlaw19.ClientAdds", spec := "clientAdds", inPlace := ["internal/bytealg.CountString", "internal/bytealg.IndexByteString", "internal/bytealg.IndexString"], unfollowed := true, recurses := true, named := ["unicode/utf8.first", "unicode/utf8.acceptRanges", "internal/bytealg.MaxLen"], apart := false, laid := [("unicode/utf8.acceptRanges", laid_unicode_utf8_acceptRanges), ("unicode/utf8.first", laid_unicode_utf8_first)], narrowed := true }
def ClientAddsUptoSaid : Prop := clientAddsUptoRow.holds Tryz.pinned (OpenSpec.upto clientAddsSpec)

/-- 'holtlaw19.ClientBound', WHERE WHAT IT READS IS OF BULK AT MOST 1048576: true; the input reads as it did. -/
def clientBoundUptoRow : OpenClaim := { program := "ytikkegelplllmaagreatdoor", sum := "756530a1c35ed496b9ecc2511782b5b3eb9ba718cf2654bf16b0d089a8b95eac", func := "holt/holtlaw19.ClientBound", spec := "clientBound", inPlace := ["internal/bytealg.CountString", "internal/bytealg.IndexByteString", "internal/bytealg.IndexString"], unfollowed := true, recurses := true, named := ["unicode/utf8.first", "unicode/utf8.acceptRanges", "internal/bytealg.MaxLen"], apart := false, laid := [("unicode/utf8.acceptRanges", laid_unicode_utf8_acceptRanges), ("unicode/utf8.first", laid_unicode_utf8_first)], narrowed := true }
def ClientBoundUptoSaid : Prop := clientBoundUptoRow.holds Tryz.pinned (OpenSpec.upto clientBoundSpec)

/-- 'holtlaw19.ClientPins', WHERE WHAT IT READS IS OF BULK AT MOST 1048576: true; the input reads as it did. -/
def clientPinsUptoRow : OpenClaim := { program := "ytikkegelplllmaagreatdoor", sum := "756530a1c35ed496b9ecc2511782b5b3eb9ba718cf2654bf16b0d089a8b95eac", func := "holt/holtlaw19.ClientPins", spec := "clientPins", inPlace := ["internal/bytealg.CountString", "internal/bytealg.IndexByteString", "internal/bytealg.IndexString"], unfollowed := true, recurses := true, named := ["unicode/utf8.first", "unicode/utf8.acceptRanges", "internal/bytealg.MaxLen"], apart := false, laid := [("unicode/utf8.acceptRanges", laid_unicode_utf8_acceptRanges), ("unicode/utf8.first", laid_unicode_utf8_first)], narrowed := true }
def ClientPinsUptoSaid : Prop := clientPinsUptoRow.holds Tryz.pinned (OpenSpec.upto clientPinsSpec)

/-- 'holtlaw19.ClientReads', WHERE WHAT IT READS IS OF BULK AT MOST 1048576: true; the input reads as it did. -/
def clientReadsUptoRow : OpenClaim := { program := "ytikkegelplllmaagreatdoor", sum := "756530a1c35ed496b9ecc2511782b5b3eb9ba718cf2654bf16b0d089a8b95eac", func := "holt/holtlaw19.ClientReads", spec := "clientReads", inPlace := ["internal/bytealg.CountString", "internal/bytealg.IndexByteString", "internal/bytealg.IndexString"], unfollowed := true, recurses := true, named := ["unicode/utf8.first", "unicode/utf8.acceptRanges", "internal/bytealg.MaxLen"], apart := false, laid := [("unicode/utf8.acceptRanges", laid_unicode_utf8_acceptRanges), ("unicode/utf8.first", laid_unicode_utf8_first)], narrowed := true }
def ClientReadsUptoSaid : Prop := clientReadsUptoRow.holds Tryz.pinned (OpenSpec.upto clientReadsSpec)

end Rows
end Go.Proofs.YtikkegelplllmaaGreatDoor
