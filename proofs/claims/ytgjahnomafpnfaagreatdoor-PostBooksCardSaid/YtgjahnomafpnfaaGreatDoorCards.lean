/-
  DERIVED. GIVEN WITH THE SEED: THE CARDS: each row of YtgjahnomafpnfaaGreatDoorRows.lean that lists a variable, with what it lists TIED to the program's text (the seventh form; the later family's looks); each row that meets fmt, with fmt's text TOLD by the authors' own Lean function (tested against real Go, not proved from fmt's source: count such statements apart). THE CARD IS WHAT COUNTS. Prove the row's statement (the work); the ties are given (YtgjahnomafpnfaaGreatDoorTie.lean); close each card by the builder's one call (the guide's Derived/Test/ToyasCard.lean, 'card_holds'). Laid BY PROGRAM, IN A SANDBOX (cutbox-door.mjs). By AI agents, Wed Nov 11 2026. No macro, syntax, notation, axiom, sorry.
-/
import Derived.Test.YtgjahnomafpnfaaGreatDoorRows
import GoSem.ClaimSeven
namespace Go.Proofs.YtgjahnomafpnfaaGreatDoor
namespace Rows

/-- THE TIED CARD OF 'laganlaw08.PostAgain'. -/
def postAgainCard : Claim7 := { stood := { row := postAgainRow, standIns := [], harness := (true, "5602a450e1ab95971c0953086e83602e1da3cc71aa9ac35c473bc850be45bc02"), looks := true }, kinds := [], alts := [], laidByText := true, laidKinds := [.data, .data, .data, .data, .sentinel, .sentinel, .pinned], laidTests := true, laidLooks := .later }
def PostAgainCardSaid : Prop := Claim7.holds Tryz.pinned (.plain (OpenSpec.ofChange postAgainSpec)) postAgainCard

/-- THE TIED CARD OF 'laganlaw08.PostOrder'. -/
def postOrderCard : Claim7 := { stood := { row := postOrderRow, standIns := [], harness := (true, "5602a450e1ab95971c0953086e83602e1da3cc71aa9ac35c473bc850be45bc02"), looks := true }, kinds := [], alts := [], laidByText := true, laidKinds := [.data, .data, .data, .data, .sentinel, .sentinel, .pinned], laidTests := true, laidLooks := .later }
def PostOrderCardSaid : Prop := Claim7.holds Tryz.pinned (.plain (OpenSpec.ofChange postOrderSpec)) postOrderCard

/-- THE TIED CARD OF 'laganlaw08.PostSpread'. -/
def postSpreadCard : Claim7 := { stood := { row := postSpreadRow, standIns := [], harness := (true, "5602a450e1ab95971c0953086e83602e1da3cc71aa9ac35c473bc850be45bc02"), looks := true }, kinds := [], alts := [], laidByText := true, laidKinds := [.data, .data, .data, .data, .sentinel, .sentinel, .pinned], laidTests := true, laidLooks := .later }
def PostSpreadCardSaid : Prop := Claim7.holds Tryz.pinned (.plain (OpenSpec.ofChange postSpreadSpec)) postSpreadCard

/-- THE TIED CARD OF 'laganlaw08.PostNil'. -/
def postNilCard : Claim7 := { stood := { row := postNilRow, standIns := [], harness := (true, "5602a450e1ab95971c0953086e83602e1da3cc71aa9ac35c473bc850be45bc02"), looks := true }, kinds := [], alts := [], laidByText := true, laidKinds := [.data, .data, .data, .data, .sentinel, .sentinel, .pinned], laidTests := true, laidLooks := .later }
def PostNilCardSaid : Prop := Claim7.holds Tryz.pinned (.plain (OpenSpec.ofChange postNilSpec)) postNilCard

/-- THE TIED CARD OF 'laganlaw08.PostMemory'. -/
def postMemoryCard : Claim7 := { stood := { row := postMemoryRow, standIns := [], harness := (true, "5602a450e1ab95971c0953086e83602e1da3cc71aa9ac35c473bc850be45bc02"), looks := true }, kinds := [], alts := [], laidByText := true, laidKinds := [.data, .data, .data, .data, .sentinel, .sentinel, .pinned], laidTests := true, laidLooks := .later }
def PostMemoryCardSaid : Prop := Claim7.holds Tryz.pinned (.plain (OpenSpec.ofChange postMemorySpec)) postMemoryCard

/-- THE TIED CARD OF 'laganlaw08.PostBooks'. -/
def postBooksCard : Claim7 := { stood := { row := postBooksRow, standIns := [], harness := (true, "5602a450e1ab95971c0953086e83602e1da3cc71aa9ac35c473bc850be45bc02"), looks := true }, kinds := [], alts := [], laidByText := true, laidKinds := [.data, .data, .data, .data, .sentinel, .sentinel, .pinned], laidTests := true, laidLooks := .later }
def PostBooksCardSaid : Prop := Claim7.holds Tryz.pinned (.plain (OpenSpec.ofChange postBooksSpec)) postBooksCard

/-- THE TIED CARD OF 'laganlaw08.PostTorn'. -/
def postTornCard : Claim7 := { stood := { row := postTornRow, standIns := [], harness := (true, "5602a450e1ab95971c0953086e83602e1da3cc71aa9ac35c473bc850be45bc02"), looks := true }, kinds := [], alts := [], laidByText := true, laidKinds := [.data, .data, .data, .data, .sentinel, .sentinel, .pinned], laidTests := true, laidLooks := .later }
def PostTornCardSaid : Prop := Claim7.holds Tryz.pinned (.plain (OpenSpec.ofChange postTornSpec)) postTornCard

/-- THE TIED CARD OF 'laganlaw08.PostRecords'. -/
def postRecordsCard : Claim7 := { stood := { row := postRecordsRow, standIns := [], harness := (true, "5602a450e1ab95971c0953086e83602e1da3cc71aa9ac35c473bc850be45bc02"), looks := true }, kinds := [], alts := [], laidByText := true, laidKinds := [.data, .data, .data, .data, .sentinel, .sentinel, .pinned], laidTests := true, laidLooks := .later }
def PostRecordsCardSaid : Prop := Claim7.holds Tryz.pinned (.plain (OpenSpec.ofChange postRecordsSpec)) postRecordsCard

/-- THE TIED CARD OF 'laganlaw08.PostMerges'. -/
def postMergesCard : Claim7 := { stood := { row := postMergesRow, standIns := [], harness := (true, "5602a450e1ab95971c0953086e83602e1da3cc71aa9ac35c473bc850be45bc02"), looks := true }, kinds := [], alts := [], laidByText := true, laidKinds := [.data, .data, .data, .data, .sentinel, .sentinel, .pinned], laidTests := true, laidLooks := .later }
def PostMergesCardSaid : Prop := Claim7.holds Tryz.pinned (.plain (OpenSpec.ofChange postMergesSpec)) postMergesCard

/-- THE TIED CARD OF 'laganlaw08.PostDurable'. -/
def postDurableCard : Claim7 := { stood := { row := postDurableRow, standIns := [], harness := (true, "5602a450e1ab95971c0953086e83602e1da3cc71aa9ac35c473bc850be45bc02"), looks := true }, kinds := [], alts := [], laidByText := true, laidKinds := [.data, .data, .data, .data, .sentinel, .sentinel, .pinned], laidTests := true, laidLooks := .later }
def PostDurableCardSaid : Prop := Claim7.holds Tryz.pinned (.plain (OpenSpec.ofChange postDurableSpec)) postDurableCard

/-- THE TIED CARD OF 'laganlaw08.PostKeeps'. -/
def postKeepsCard : Claim7 := { stood := { row := postKeepsRow, standIns := [], harness := (true, "5602a450e1ab95971c0953086e83602e1da3cc71aa9ac35c473bc850be45bc02"), looks := true }, kinds := [], alts := [], laidByText := true, laidKinds := [.data, .data, .data, .data, .sentinel, .sentinel, .pinned], laidTests := true, laidLooks := .later }
def PostKeepsCardSaid : Prop := Claim7.holds Tryz.pinned (.plain (OpenSpec.ofChange postKeepsSpec)) postKeepsCard

/-- THE TIED CARD OF 'laganlaw08.PostMerging'. -/
def postMergingCard : Claim7 := { stood := { row := postMergingRow, standIns := [], harness := (true, "5602a450e1ab95971c0953086e83602e1da3cc71aa9ac35c473bc850be45bc02"), looks := true }, kinds := [], alts := [], laidByText := true, laidKinds := [.data, .data, .data, .data, .sentinel, .sentinel, .pinned], laidTests := true, laidLooks := .later }
def PostMergingCardSaid : Prop := Claim7.holds Tryz.pinned (.plain (OpenSpec.ofChange postMergingSpec)) postMergingCard

/-- THE TIED CARD OF 'laganlaw08.PostDisk'. -/
def postDiskCard : Claim7 := { stood := { row := postDiskRow, standIns := [], harness := (true, "5602a450e1ab95971c0953086e83602e1da3cc71aa9ac35c473bc850be45bc02"), looks := true }, kinds := [], alts := [], laidByText := true, laidKinds := [.data, .data, .data, .data, .sentinel, .sentinel, .pinned], laidTests := true, laidLooks := .later }
def PostDiskCardSaid : Prop := Claim7.holds Tryz.pinned (.plain (OpenSpec.ofChange postDiskSpec)) postDiskCard

/-- THE TIED CARD OF 'laganlaw08.PostOne'. -/
def postOneCard : Claim7 := { stood := { row := postOneRow, standIns := [], harness := (true, "5602a450e1ab95971c0953086e83602e1da3cc71aa9ac35c473bc850be45bc02"), looks := true }, kinds := [], alts := [], laidByText := true, laidKinds := [.data, .data, .data, .data, .sentinel, .sentinel, .pinned], laidTests := true, laidLooks := .later }
def PostOneCardSaid : Prop := Claim7.holds Tryz.pinned (.plain (OpenSpec.ofChange postOneSpec)) postOneCard

/-- THE SECOND FORM's CARD OF 'laganlaw08.PostAgain'. -/
def postAgainUptoCard : Claim7 := { stood := { row := postAgainUptoRow, standIns := [], harness := (true, "5602a450e1ab95971c0953086e83602e1da3cc71aa9ac35c473bc850be45bc02"), looks := true }, kinds := [], alts := [], laidByText := true, laidKinds := [.data, .data, .data, .data, .sentinel, .sentinel, .pinned], laidTests := true, laidLooks := .later }
def PostAgainUptoCardSaid : Prop := Claim7.holds Tryz.pinned (.plain (OpenSpec.upto postAgainSpec)) postAgainUptoCard

/-- THE SECOND FORM's CARD OF 'laganlaw08.PostOrder'. -/
def postOrderUptoCard : Claim7 := { stood := { row := postOrderUptoRow, standIns := [], harness := (true, "5602a450e1ab95971c0953086e83602e1da3cc71aa9ac35c473bc850be45bc02"), looks := true }, kinds := [], alts := [], laidByText := true, laidKinds := [.data, .data, .data, .data, .sentinel, .sentinel, .pinned], laidTests := true, laidLooks := .later }
def PostOrderUptoCardSaid : Prop := Claim7.holds Tryz.pinned (.plain (OpenSpec.upto postOrderSpec)) postOrderUptoCard

/-- THE SECOND FORM's CARD OF 'laganlaw08.PostSpread'. -/
def postSpreadUptoCard : Claim7 := { stood := { row := postSpreadUptoRow, standIns := [], harness := (true, "5602a450e1ab95971c0953086e83602e1da3cc71aa9ac35c473bc850be45bc02"), looks := true }, kinds := [], alts := [], laidByText := true, laidKinds := [.data, .data, .data, .data, .sentinel, .sentinel, .pinned], laidTests := true, laidLooks := .later }
def PostSpreadUptoCardSaid : Prop := Claim7.holds Tryz.pinned (.plain (OpenSpec.upto postSpreadSpec)) postSpreadUptoCard

/-- THE SECOND FORM's CARD OF 'laganlaw08.PostNil'. -/
def postNilUptoCard : Claim7 := { stood := { row := postNilUptoRow, standIns := [], harness := (true, "5602a450e1ab95971c0953086e83602e1da3cc71aa9ac35c473bc850be45bc02"), looks := true }, kinds := [], alts := [], laidByText := true, laidKinds := [.data, .data, .data, .data, .sentinel, .sentinel, .pinned], laidTests := true, laidLooks := .later }
def PostNilUptoCardSaid : Prop := Claim7.holds Tryz.pinned (.plain (OpenSpec.upto postNilSpec)) postNilUptoCard

/-- THE SECOND FORM's CARD OF 'laganlaw08.PostMemory'. -/
def postMemoryUptoCard : Claim7 := { stood := { row := postMemoryUptoRow, standIns := [], harness := (true, "5602a450e1ab95971c0953086e83602e1da3cc71aa9ac35c473bc850be45bc02"), looks := true }, kinds := [], alts := [], laidByText := true, laidKinds := [.data, .data, .data, .data, .sentinel, .sentinel, .pinned], laidTests := true, laidLooks := .later }
def PostMemoryUptoCardSaid : Prop := Claim7.holds Tryz.pinned (.plain (OpenSpec.upto postMemorySpec)) postMemoryUptoCard

/-- THE SECOND FORM's CARD OF 'laganlaw08.PostBooks'. -/
def postBooksUptoCard : Claim7 := { stood := { row := postBooksUptoRow, standIns := [], harness := (true, "5602a450e1ab95971c0953086e83602e1da3cc71aa9ac35c473bc850be45bc02"), looks := true }, kinds := [], alts := [], laidByText := true, laidKinds := [.data, .data, .data, .data, .sentinel, .sentinel, .pinned], laidTests := true, laidLooks := .later }
def PostBooksUptoCardSaid : Prop := Claim7.holds Tryz.pinned (.plain (OpenSpec.upto postBooksSpec)) postBooksUptoCard

/-- THE SECOND FORM's CARD OF 'laganlaw08.PostTorn'. -/
def postTornUptoCard : Claim7 := { stood := { row := postTornUptoRow, standIns := [], harness := (true, "5602a450e1ab95971c0953086e83602e1da3cc71aa9ac35c473bc850be45bc02"), looks := true }, kinds := [], alts := [], laidByText := true, laidKinds := [.data, .data, .data, .data, .sentinel, .sentinel, .pinned], laidTests := true, laidLooks := .later }
def PostTornUptoCardSaid : Prop := Claim7.holds Tryz.pinned (.plain (OpenSpec.upto postTornSpec)) postTornUptoCard

/-- THE SECOND FORM's CARD OF 'laganlaw08.PostRecords'. -/
def postRecordsUptoCard : Claim7 := { stood := { row := postRecordsUptoRow, standIns := [], harness := (true, "5602a450e1ab95971c0953086e83602e1da3cc71aa9ac35c473bc850be45bc02"), looks := true }, kinds := [], alts := [], laidByText := true, laidKinds := [.data, .data, .data, .data, .sentinel, .sentinel, .pinned], laidTests := true, laidLooks := .later }
def PostRecordsUptoCardSaid : Prop := Claim7.holds Tryz.pinned (.plain (OpenSpec.upto postRecordsSpec)) postRecordsUptoCard

/-- THE SECOND FORM's CARD OF 'laganlaw08.PostMerges'. -/
def postMergesUptoCard : Claim7 := { stood := { row := postMergesUptoRow, standIns := [], harness := (true, "5602a450e1ab95971c0953086e83602e1da3cc71aa9ac35c473bc850be45bc02"), looks := true }, kinds := [], alts := [], laidByText := true, laidKinds := [.data, .data, .data, .data, .sentinel, .sentinel, .pinned], laidTests := true, laidLooks := .later }
def PostMergesUptoCardSaid : Prop := Claim7.holds Tryz.pinned (.plain (OpenSpec.upto postMergesSpec)) postMergesUptoCard

/-- THE SECOND FORM's CARD OF 'laganlaw08.PostDurable'. -/
def postDurableUptoCard : Claim7 := { stood := { row := postDurableUptoRow, standIns := [], harness := (true, "5602a450e1ab95971c0953086e83602e1da3cc71aa9ac35c473bc850be45bc02"), looks := true }, kinds := [], alts := [], laidByText := true, laidKinds := [.data, .data, .data, .data, .sentinel, .sentinel, .pinned], laidTests := true, laidLooks := .later }
def PostDurableUptoCardSaid : Prop := Claim7.holds Tryz.pinned (.plain (OpenSpec.upto postDurableSpec)) postDurableUptoCard

/-- THE SECOND FORM's CARD OF 'laganlaw08.PostKeeps'. -/
def postKeepsUptoCard : Claim7 := { stood := { row := postKeepsUptoRow, standIns := [], harness := (true, "5602a450e1ab95971c0953086e83602e1da3cc71aa9ac35c473bc850be45bc02"), looks := true }, kinds := [], alts := [], laidByText := true, laidKinds := [.data, .data, .data, .data, .sentinel, .sentinel, .pinned], laidTests := true, laidLooks := .later }
def PostKeepsUptoCardSaid : Prop := Claim7.holds Tryz.pinned (.plain (OpenSpec.upto postKeepsSpec)) postKeepsUptoCard

/-- THE SECOND FORM's CARD OF 'laganlaw08.PostMerging'. -/
def postMergingUptoCard : Claim7 := { stood := { row := postMergingUptoRow, standIns := [], harness := (true, "5602a450e1ab95971c0953086e83602e1da3cc71aa9ac35c473bc850be45bc02"), looks := true }, kinds := [], alts := [], laidByText := true, laidKinds := [.data, .data, .data, .data, .sentinel, .sentinel, .pinned], laidTests := true, laidLooks := .later }
def PostMergingUptoCardSaid : Prop := Claim7.holds Tryz.pinned (.plain (OpenSpec.upto postMergingSpec)) postMergingUptoCard

/-- THE SECOND FORM's CARD OF 'laganlaw08.PostDisk'. -/
def postDiskUptoCard : Claim7 := { stood := { row := postDiskUptoRow, standIns := [], harness := (true, "5602a450e1ab95971c0953086e83602e1da3cc71aa9ac35c473bc850be45bc02"), looks := true }, kinds := [], alts := [], laidByText := true, laidKinds := [.data, .data, .data, .data, .sentinel, .sentinel, .pinned], laidTests := true, laidLooks := .later }
def PostDiskUptoCardSaid : Prop := Claim7.holds Tryz.pinned (.plain (OpenSpec.upto postDiskSpec)) postDiskUptoCard

/-- THE SECOND FORM's CARD OF 'laganlaw08.PostOne'. -/
def postOneUptoCard : Claim7 := { stood := { row := postOneUptoRow, standIns := [], harness := (true, "5602a450e1ab95971c0953086e83602e1da3cc71aa9ac35c473bc850be45bc02"), looks := true }, kinds := [], alts := [], laidByText := true, laidKinds := [.data, .data, .data, .data, .sentinel, .sentinel, .pinned], laidTests := true, laidLooks := .later }
def PostOneUptoCardSaid : Prop := Claim7.holds Tryz.pinned (.plain (OpenSpec.upto postOneSpec)) postOneUptoCard
end Rows
end Go.Proofs.YtgjahnomafpnfaaGreatDoor
