/-
  DERIVED. GIVEN WITH THE SEED: THE CARDS: each row of YtioofejjjgggkaaDoorRows.lean that lists a variable, with what it lists TIED to the program's text (the seventh form; the later family's looks); each row that meets fmt, with fmt's text TOLD by the authors' own Lean function (tested against real Go, not proved from fmt's source: count such statements apart). THE CARD IS WHAT COUNTS. Prove the row's statement (the work); the ties are given (YtioofejjjgggkaaDoorTie.lean); close each card by the builder's one call (the guide's Derived/Test/ToyasCard.lean, 'card_holds'). Laid BY PROGRAM, IN A SANDBOX (cutbox-door.mjs). By AI agents, Wed Nov 11 2026. No macro, syntax, notation, axiom, sorry.
-/
import Derived.Test.YtioofejjjgggkaaDoorRows
import GoSem.ClaimSeven
namespace Go.Proofs.YtioofejjjgggkaaDoor
namespace Rows

/-- THE TIED CARD OF 'tribunallaw02.DigitsTells'. -/
def digitsTellsCard : Claim7 := { stood := { row := digitsTellsRow, standIns := [], harness := (true, "d2ca1783ddfc5db7c6db0370d013db443dba1c58fd73b3b71a61cf0f1ced659c"), looks := false }, kinds := [], alts := [], laidByText := true, laidKinds := [.data, .pinned], laidTests := true, laidLooks := .later }
def DigitsTellsCardSaid : Prop := Claim7.holds Tryd.pinned (.plain (OpenSpec.ofChange digitsTellsSpec)) digitsTellsCard

/-- THE TIED CARD OF 'tribunallaw02.DigitsBack'. -/
def digitsBackCard : Claim7 := { stood := { row := digitsBackRow, standIns := [], harness := (true, "d2ca1783ddfc5db7c6db0370d013db443dba1c58fd73b3b71a61cf0f1ced659c"), looks := false }, kinds := [], alts := [], laidByText := true, laidKinds := [.data, .pinned], laidTests := true, laidLooks := .later }
def DigitsBackCardSaid : Prop := Claim7.holds Tryd.pinned (.plain (OpenSpec.ofChange digitsBackSpec)) digitsBackCard

/-- THE TIED CARD OF 'tribunallaw02.DigitsOrder'. -/
def digitsOrderCard : Claim7 := { stood := { row := digitsOrderRow, standIns := [], harness := (true, "d2ca1783ddfc5db7c6db0370d013db443dba1c58fd73b3b71a61cf0f1ced659c"), looks := false }, kinds := [], alts := [], laidByText := true, laidKinds := [.data, .pinned], laidTests := true, laidLooks := .later }
def DigitsOrderCardSaid : Prop := Claim7.holds Tryd.pinned (.plain (OpenSpec.ofChange digitsOrderSpec)) digitsOrderCard

/-- THE TIED CARD OF 'tribunallaw02.DigitsNext'. -/
def digitsNextCard : Claim7 := { stood := { row := digitsNextRow, standIns := [], harness := (true, "d2ca1783ddfc5db7c6db0370d013db443dba1c58fd73b3b71a61cf0f1ced659c"), looks := false }, kinds := [], alts := [], laidByText := true, laidKinds := [.data, .pinned], laidTests := true, laidLooks := .later }
def DigitsNextCardSaid : Prop := Claim7.holds Tryd.pinned (.plain (OpenSpec.ofChange digitsNextSpec)) digitsNextCard

/-- THE TIED CARD OF 'tribunallaw02.DigitsWrong'. -/
def digitsWrongCard : Claim7 := { stood := { row := digitsWrongRow, standIns := [], harness := (true, "d2ca1783ddfc5db7c6db0370d013db443dba1c58fd73b3b71a61cf0f1ced659c"), looks := false }, kinds := [], alts := [], laidByText := true, laidKinds := [.data, .pinned], laidTests := true, laidLooks := .later }
def DigitsWrongCardSaid : Prop := Claim7.holds Tryd.pinned (.plain (OpenSpec.ofChange digitsWrongSpec)) digitsWrongCard

/-- THE TIED CARD OF 'tribunallaw02.DigitsLong'. -/
def digitsLongCard : Claim7 := { stood := { row := digitsLongRow, standIns := [], harness := (true, "d2ca1783ddfc5db7c6db0370d013db443dba1c58fd73b3b71a61cf0f1ced659c"), looks := false }, kinds := [], alts := [], laidByText := true, laidKinds := [.data, .pinned], laidTests := true, laidLooks := .later }
def DigitsLongCardSaid : Prop := Claim7.holds Tryd.pinned (.plain (OpenSpec.ofChange digitsLongSpec)) digitsLongCard

/-- THE TIED CARD OF 'tribunallaw02.DigitsParts'. -/
def digitsPartsCard : Claim7 := { stood := { row := digitsPartsRow, standIns := [], harness := (true, "d2ca1783ddfc5db7c6db0370d013db443dba1c58fd73b3b71a61cf0f1ced659c"), looks := false }, kinds := [], alts := [], laidByText := true, laidKinds := [.data, .pinned], laidTests := true, laidLooks := .later }
def DigitsPartsCardSaid : Prop := Claim7.holds Tryd.pinned (.plain (OpenSpec.ofChange digitsPartsSpec)) digitsPartsCard

/-- THE SECOND FORM's CARD OF 'tribunallaw02.DigitsTells'. -/
def digitsTellsUptoCard : Claim7 := { stood := { row := digitsTellsUptoRow, standIns := [], harness := (true, "d2ca1783ddfc5db7c6db0370d013db443dba1c58fd73b3b71a61cf0f1ced659c"), looks := false }, kinds := [], alts := [], laidByText := true, laidKinds := [.data, .pinned], laidTests := true, laidLooks := .later }
def DigitsTellsUptoCardSaid : Prop := Claim7.holds Tryd.pinned (.plain (OpenSpec.upto digitsTellsSpec)) digitsTellsUptoCard

/-- THE SECOND FORM's CARD OF 'tribunallaw02.DigitsBack'. -/
def digitsBackUptoCard : Claim7 := { stood := { row := digitsBackUptoRow, standIns := [], harness := (true, "d2ca1783ddfc5db7c6db0370d013db443dba1c58fd73b3b71a61cf0f1ced659c"), looks := false }, kinds := [], alts := [], laidByText := true, laidKinds := [.data, .pinned], laidTests := true, laidLooks := .later }
def DigitsBackUptoCardSaid : Prop := Claim7.holds Tryd.pinned (.plain (OpenSpec.upto digitsBackSpec)) digitsBackUptoCard

/-- THE SECOND FORM's CARD OF 'tribunallaw02.DigitsOrder'. -/
def digitsOrderUptoCard : Claim7 := { stood := { row := digitsOrderUptoRow, standIns := [], harness := (true, "d2ca1783ddfc5db7c6db0370d013db443dba1c58fd73b3b71a61cf0f1ced659c"), looks := false }, kinds := [], alts := [], laidByText := true, laidKinds := [.data, .pinned], laidTests := true, laidLooks := .later }
def DigitsOrderUptoCardSaid : Prop := Claim7.holds Tryd.pinned (.plain (OpenSpec.upto digitsOrderSpec)) digitsOrderUptoCard

/-- THE SECOND FORM's CARD OF 'tribunallaw02.DigitsNext'. -/
def digitsNextUptoCard : Claim7 := { stood := { row := digitsNextUptoRow, standIns := [], harness := (true, "d2ca1783ddfc5db7c6db0370d013db443dba1c58fd73b3b71a61cf0f1ced659c"), looks := false }, kinds := [], alts := [], laidByText := true, laidKinds := [.data, .pinned], laidTests := true, laidLooks := .later }
def DigitsNextUptoCardSaid : Prop := Claim7.holds Tryd.pinned (.plain (OpenSpec.upto digitsNextSpec)) digitsNextUptoCard

/-- THE SECOND FORM's CARD OF 'tribunallaw02.DigitsWrong'. -/
def digitsWrongUptoCard : Claim7 := { stood := { row := digitsWrongUptoRow, standIns := [], harness := (true, "d2ca1783ddfc5db7c6db0370d013db443dba1c58fd73b3b71a61cf0f1ced659c"), looks := false }, kinds := [], alts := [], laidByText := true, laidKinds := [.data, .pinned], laidTests := true, laidLooks := .later }
def DigitsWrongUptoCardSaid : Prop := Claim7.holds Tryd.pinned (.plain (OpenSpec.upto digitsWrongSpec)) digitsWrongUptoCard

/-- THE SECOND FORM's CARD OF 'tribunallaw02.DigitsLong'. -/
def digitsLongUptoCard : Claim7 := { stood := { row := digitsLongUptoRow, standIns := [], harness := (true, "d2ca1783ddfc5db7c6db0370d013db443dba1c58fd73b3b71a61cf0f1ced659c"), looks := false }, kinds := [], alts := [], laidByText := true, laidKinds := [.data, .pinned], laidTests := true, laidLooks := .later }
def DigitsLongUptoCardSaid : Prop := Claim7.holds Tryd.pinned (.plain (OpenSpec.upto digitsLongSpec)) digitsLongUptoCard

/-- THE SECOND FORM's CARD OF 'tribunallaw02.DigitsParts'. -/
def digitsPartsUptoCard : Claim7 := { stood := { row := digitsPartsUptoRow, standIns := [], harness := (true, "d2ca1783ddfc5db7c6db0370d013db443dba1c58fd73b3b71a61cf0f1ced659c"), looks := false }, kinds := [], alts := [], laidByText := true, laidKinds := [.data, .pinned], laidTests := true, laidLooks := .later }
def DigitsPartsUptoCardSaid : Prop := Claim7.holds Tryd.pinned (.plain (OpenSpec.upto digitsPartsSpec)) digitsPartsUptoCard
end Rows
end Go.Proofs.YtioofejjjgggkaaDoor
