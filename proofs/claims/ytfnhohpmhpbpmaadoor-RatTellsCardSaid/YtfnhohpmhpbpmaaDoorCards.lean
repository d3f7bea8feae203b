/-
  DERIVED. GIVEN WITH THE SEED: THE CARDS: each row of YtfnhohpmhpbpmaaDoorRows.lean that lists a variable, with what it lists TIED to the program's text (the seventh form; the later family's looks); each row that meets fmt, with fmt's text TOLD by the authors' own Lean function (tested against real Go, not proved from fmt's source: count such statements apart). THE CARD IS WHAT COUNTS. Prove the row's statement (the work); the ties are given (YtfnhohpmhpbpmaaDoorTie.lean); close each card by the builder's one call (the guide's Derived/Test/ToyasCard.lean, 'card_holds'). Laid BY PROGRAM, IN A SANDBOX (cutbox-door.mjs). By AI agents, Wed Nov 11 2026. No macro, syntax, notation, axiom, sorry.
-/
import Derived.Test.YtfnhohpmhpbpmaaDoorRows
import GoSem.ClaimSeven
namespace Go.Proofs.YtfnhohpmhpbpmaaDoor
namespace Rows

/-- THE TIED CARD OF 'tribunallaw03.RatTells'. -/
def ratTellsCard : Claim7 := { stood := { row := ratTellsRow, standIns := [], harness := (true, "6e6444984510bd38368fdc849a6d4a1d276fc3ca1fd562031badbdbb2dcafa13"), looks := false }, kinds := [], alts := [], laidByText := true, laidKinds := [.data, .pinned], laidTests := true, laidLooks := .later }
def RatTellsCardSaid : Prop := Claim7.holds Tryd.pinned (.plain (OpenSpec.ofChange ratTellsSpec)) ratTellsCard

/-- THE TIED CARD OF 'tribunallaw03.RatField'. -/
def ratFieldCard : Claim7 := { stood := { row := ratFieldRow, standIns := [], harness := (true, "6e6444984510bd38368fdc849a6d4a1d276fc3ca1fd562031badbdbb2dcafa13"), looks := false }, kinds := [], alts := [], laidByText := true, laidKinds := [.data, .pinned], laidTests := true, laidLooks := .later }
def RatFieldCardSaid : Prop := Claim7.holds Tryd.pinned (.plain (OpenSpec.ofChange ratFieldSpec)) ratFieldCard

/-- THE TIED CARD OF 'tribunallaw03.RatText'. -/
def ratTextCard : Claim7 := { stood := { row := ratTextRow, standIns := [], harness := (true, "6e6444984510bd38368fdc849a6d4a1d276fc3ca1fd562031badbdbb2dcafa13"), looks := false }, kinds := [], alts := [], laidByText := true, laidKinds := [.data, .pinned], laidTests := true, laidLooks := .later }
def RatTextCardSaid : Prop := Claim7.holds Tryd.pinned (.plain (OpenSpec.ofChange ratTextSpec)) ratTextCard

/-- THE TIED CARD OF 'tribunallaw03.RatOrder'. -/
def ratOrderCard : Claim7 := { stood := { row := ratOrderRow, standIns := [], harness := (true, "6e6444984510bd38368fdc849a6d4a1d276fc3ca1fd562031badbdbb2dcafa13"), looks := false }, kinds := [], alts := [], laidByText := true, laidKinds := [.data, .pinned], laidTests := true, laidLooks := .later }
def RatOrderCardSaid : Prop := Claim7.holds Tryd.pinned (.plain (OpenSpec.ofChange ratOrderSpec)) ratOrderCard

/-- THE TIED CARD OF 'tribunallaw03.RatWhole'. -/
def ratWholeCard : Claim7 := { stood := { row := ratWholeRow, standIns := [], harness := (true, "6e6444984510bd38368fdc849a6d4a1d276fc3ca1fd562031badbdbb2dcafa13"), looks := false }, kinds := [], alts := [], laidByText := true, laidKinds := [.data, .pinned], laidTests := true, laidLooks := .later }
def RatWholeCardSaid : Prop := Claim7.holds Tryd.pinned (.plain (OpenSpec.ofChange ratWholeSpec)) ratWholeCard

/-- THE TIED CARD OF 'tribunallaw03.RatParts'. -/
def ratPartsCard : Claim7 := { stood := { row := ratPartsRow, standIns := [], harness := (true, "6e6444984510bd38368fdc849a6d4a1d276fc3ca1fd562031badbdbb2dcafa13"), looks := false }, kinds := [], alts := [], laidByText := true, laidKinds := [.data, .pinned], laidTests := true, laidLooks := .later }
def RatPartsCardSaid : Prop := Claim7.holds Tryd.pinned (.plain (OpenSpec.ofChange ratPartsSpec)) ratPartsCard

/-- THE TIED CARD OF 'tribunallaw03.RatSum'. -/
def ratSumCard : Claim7 := { stood := { row := ratSumRow, standIns := [], harness := (true, "6e6444984510bd38368fdc849a6d4a1d276fc3ca1fd562031badbdbb2dcafa13"), looks := false }, kinds := [], alts := [], laidByText := true, laidKinds := [.data, .pinned], laidTests := true, laidLooks := .later }
def RatSumCardSaid : Prop := Claim7.holds Tryd.pinned (.plain (OpenSpec.ofChange ratSumSpec)) ratSumCard

/-- THE SECOND FORM's CARD OF 'tribunallaw03.RatTells'. -/
def ratTellsUptoCard : Claim7 := { stood := { row := ratTellsUptoRow, standIns := [], harness := (true, "6e6444984510bd38368fdc849a6d4a1d276fc3ca1fd562031badbdbb2dcafa13"), looks := false }, kinds := [], alts := [], laidByText := true, laidKinds := [.data, .pinned], laidTests := true, laidLooks := .later }
def RatTellsUptoCardSaid : Prop := Claim7.holds Tryd.pinned (.plain (OpenSpec.upto ratTellsSpec)) ratTellsUptoCard

/-- THE SECOND FORM's CARD OF 'tribunallaw03.RatField'. -/
def ratFieldUptoCard : Claim7 := { stood := { row := ratFieldUptoRow, standIns := [], harness := (true, "6e6444984510bd38368fdc849a6d4a1d276fc3ca1fd562031badbdbb2dcafa13"), looks := false }, kinds := [], alts := [], laidByText := true, laidKinds := [.data, .pinned], laidTests := true, laidLooks := .later }
def RatFieldUptoCardSaid : Prop := Claim7.holds Tryd.pinned (.plain (OpenSpec.upto ratFieldSpec)) ratFieldUptoCard

/-- THE SECOND FORM's CARD OF 'tribunallaw03.RatText'. -/
def ratTextUptoCard : Claim7 := { stood := { row := ratTextUptoRow, standIns := [], harness := (true, "6e6444984510bd38368fdc849a6d4a1d276fc3ca1fd562031badbdbb2dcafa13"), looks := false }, kinds := [], alts := [], laidByText := true, laidKinds := [.data, .pinned], laidTests := true, laidLooks := .later }
def RatTextUptoCardSaid : Prop := Claim7.holds Tryd.pinned (.plain (OpenSpec.upto ratTextSpec)) ratTextUptoCard

/-- THE SECOND FORM's CARD OF 'tribunallaw03.RatOrder'. -/
def ratOrderUptoCard : Claim7 := { stood := { row := ratOrderUptoRow, standIns := [], harness := (true, "6e6444984510bd38368fdc849a6d4a1d276fc3ca1fd562031badbdbb2dcafa13"), looks := false }, kinds := [], alts := [], laidByText := true, laidKinds := [.data, .pinned], laidTests := true, laidLooks := .later }
def RatOrderUptoCardSaid : Prop := Claim7.holds Tryd.pinned (.plain (OpenSpec.upto ratOrderSpec)) ratOrderUptoCard

/-- THE SECOND FORM's CARD OF 'tribunallaw03.RatWhole'. -/
def ratWholeUptoCard : Claim7 := { stood := { row := ratWholeUptoRow, standIns := [], harness := (true, "6e6444984510bd38368fdc849a6d4a1d276fc3ca1fd562031badbdbb2dcafa13"), looks := false }, kinds := [], alts := [], laidByText := true, laidKinds := [.data, .pinned], laidTests := true, laidLooks := .later }
def RatWholeUptoCardSaid : Prop := Claim7.holds Tryd.pinned (.plain (OpenSpec.upto ratWholeSpec)) ratWholeUptoCard

/-- THE SECOND FORM's CARD OF 'tribunallaw03.RatParts'. -/
def ratPartsUptoCard : Claim7 := { stood := { row := ratPartsUptoRow, standIns := [], harness := (true, "6e6444984510bd38368fdc849a6d4a1d276fc3ca1fd562031badbdbb2dcafa13"), looks := false }, kinds := [], alts := [], laidByText := true, laidKinds := [.data, .pinned], laidTests := true, laidLooks := .later }
def RatPartsUptoCardSaid : Prop := Claim7.holds Tryd.pinned (.plain (OpenSpec.upto ratPartsSpec)) ratPartsUptoCard

/-- THE SECOND FORM's CARD OF 'tribunallaw03.RatSum'. -/
def ratSumUptoCard : Claim7 := { stood := { row := ratSumUptoRow, standIns := [], harness := (true, "6e6444984510bd38368fdc849a6d4a1d276fc3ca1fd562031badbdbb2dcafa13"), looks := false }, kinds := [], alts := [], laidByText := true, laidKinds := [.data, .pinned], laidTests := true, laidLooks := .later }
def RatSumUptoCardSaid : Prop := Claim7.holds Tryd.pinned (.plain (OpenSpec.upto ratSumSpec)) ratSumUptoCard
end Rows
end Go.Proofs.YtfnhohpmhpbpmaaDoor
