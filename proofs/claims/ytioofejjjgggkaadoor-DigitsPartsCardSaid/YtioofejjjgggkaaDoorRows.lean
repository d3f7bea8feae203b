/-
  NARROWER THAN 'FOR EVERY INPUT', by the rows' own cells (each row's printed sentence says how): DigitsTells: laid · DigitsBack: laid · DigitsOrder: laid · DigitsNext: laid · DigitsWrong: laid · DigitsLong: laid · DigitsParts: laid.
  DERIVED. THE GIVEN ROWS OF THIS SEAT. 7 by the template 'for every input the law returns true; each argument reads behind the call as it read before'; 0 by the template 'total and deterministic' (their statements: YtioofejjjgggkaaDoorTotals.lean).
  GIVEN WITH THE SEED: the statements are not yours to turn. If you find one false, say at which input.
  Laid BY PROGRAM, IN A SANDBOX (cutbox-rows.mjs): the forced cells as the released guide's own fill.sh prints them over the translation e3952ef6717e3f94… (all of the seat's roots in one cut). By AI agents, Wed Nov 11 2026. No macro, syntax, notation, axiom, sorry.
-/
import Derived.Test.YtioofejjjgggkaaDoorChecked
import GoSem.PinnedTables
import GoSem.Claim
import GoSem.ClaimJoined
import GoSem.ClaimMapViews
import Derived.JoinedTies
import Derived.KernelRfl
namespace Go.Proofs.YtioofejjjgggkaaDoor
/- THE CELL 'sum', in the pinned program and in every row, IS THE sha256 OF THE DUMP (.gsa) THAT YtioofejjjgggkaaDoorProg.lean LOADS. Nothing in Lean hashes anything: it is a label: what it is worth is what the hold of that sum in a sandbox is worth. -/
noncomputable def Tryd.pinned : Pinned := { name := "ytioofejjjgggkaadoor", sum := "e3952ef6717e3f944f560c5d54ccfc0e9a687c8bcf192f67effc126974cdb423", checked := Tryd.checked }
namespace Rows
def none {H : Type} : Left H := { results := [], args := [] }

/- WHAT THE LISTED PACKAGE-LEVEL VARIABLES READ AS WHEN THE CALL BEGINS. Each datum BY PROGRAM (the guide's laid-datum.mjs) off the statement by which the dump's own 'gosem.cut.vars' lays the variable. In a bare row this is a premise. The card (YtioofejjjgggkaaDoorCards.lean) ties it to the program's text. -/
def laid_unicode_utf8_acceptRanges {H : Type} : DataW H := .agg [.agg [.lit (.int .u8 128), .lit (.int .u8 191)], .agg [.lit (.int .u8 160), .lit (.int .u8 191)], .agg [.lit (.int .u8 128), .lit (.int .u8 159)], .agg [.lit (.int .u8 144), .lit (.int .u8 191)], .agg [.lit (.int .u8 128), .lit (.int .u8 143)], .agg [.lit (.int .u8 0), .lit (.int .u8 0)], .agg [.lit (.int .u8 0), .lit (.int .u8 0)], .agg [.lit (.int .u8 0), .lit (.int .u8 0)], .agg [.lit (.int .u8 0), .lit (.int .u8 0)], .agg [.lit (.int .u8 0), .lit (.int .u8 0)], .agg [.lit (.int .u8 0), .lit (.int .u8 0)], .agg [.lit (.int .u8 0), .lit (.int .u8 0)], .agg [.lit (.int .u8 0), .lit (.int .u8 0)], .agg [.lit (.int .u8 0), .lit (.int .u8 0)], .agg [.lit (.int .u8 0), .lit (.int .u8 0)], .agg [.lit (.int .u8 0), .lit (.int .u8 0)]]
/-- One of Go's own tables, pinned by name: the form's constant. -/
def laid_unicode_utf8_first : DataW Unit := Go.Pinned.utf8First

/-- 'tribunallaw02.DigitsTells': WHATEVER THE INPUT: true; the input reads as it did. -/
def digitsTellsSpec : ChangeSpec := { name := "digitsTells", fn := fun _ => fun
  | [d1, d2] => { results := [.lit (.bool true)], args := [d1, d2] }
  | _ => none }
def digitsTellsRow : OpenClaim := { program := "ytioofejjjgggkaadoor", sum := "e3952ef6717e3f944f560c5d54ccfc0e9a687c8bcf192f67effc126974cdb423", func := "tribunal/tribunallaw02.DigitsTells", spec := "digitsTells", inPlace := ["internal/bytealg.IndexByteString", "internal/bytealg.IndexString"], unfollowed := true, recurses := true, named := ["unicode/utf8.first", "unicode/utf8.acceptRanges", "internal/bytealg.MaxLen"], apart := false, laid := [("unicode/utf8.acceptRanges", laid_unicode_utf8_acceptRanges), ("unicode/utf8.first", laid_unicode_utf8_first)] }
def DigitsTellsSaid : Prop := digitsTellsRow.holds Tryd.pinned (OpenSpec.ofChange digitsTellsSpec)

/-- ITS FALSE NEIGHBOUR: 'it returns false'. Refute it at one input. -/
def digitsTellsWrong : ChangeSpec := { name := "digitsTells", fn := fun _ => fun
  | [d1, d2] => { results := [.lit (.bool false)], args := [d1, d2] }
  | _ => none }
def DigitsTellsWrongFalsely : Prop := digitsTellsRow.holds Tryd.pinned (OpenSpec.ofChange digitsTellsWrong)

/-- 'tribunallaw02.DigitsBack': WHATEVER THE INPUT: true; the input reads as it did. -/
def digitsBackSpec : ChangeSpec := { name := "digitsBack", fn := fun _ => fun
  | [d1, d2] => { results := [.lit (.bool true)], args := [d1, d2] }
  | _ => none }
def digitsBackRow : OpenClaim := { program := "ytioofejjjgggkaadoor", sum := "e3952ef6717e3f944f560c5d54ccfc0e9a687c8bcf192f67effc126974cdb423", func := "tribunal/tribunallaw02.DigitsBack", spec := "digitsBack", inPlace := ["internal/bytealg.IndexByteString", "internal/bytealg.IndexString"], unfollowed := true, recurses := true, named := ["unicode/utf8.first", "unicode/utf8.acceptRanges", "internal/bytealg.MaxLen"], apart := false, laid := [("unicode/utf8.acceptRanges", laid_unicode_utf8_acceptRanges), ("unicode/utf8.first", laid_unicode_utf8_first)] }
def DigitsBackSaid : Prop := digitsBackRow.holds Tryd.pinned (OpenSpec.ofChange digitsBackSpec)

/-- ITS FALSE NEIGHBOUR: 'it returns false'. Refute it at one input. -/
def digitsBackWrong : ChangeSpec := { name := "digitsBack", fn := fun _ => fun
  | [d1, d2] => { results := [.lit (.bool false)], args := [d1, d2] }
  | _ => none }
def DigitsBackWrongFalsely : Prop := digitsBackRow.holds Tryd.pinned (OpenSpec.ofChange digitsBackWrong)

/-- 'tribunallaw02.DigitsOrder': WHATEVER THE INPUT: true; the input reads as it did. -/
def digitsOrderSpec : ChangeSpec := { name := "digitsOrder", fn := fun _ => fun
  | [d1, d2] => { results := [.lit (.bool true)], args := [d1, d2] }
  | _ => none }
def digitsOrderRow : OpenClaim := { program := "ytioofejjjgggkaadoor", sum := "e3952ef6717e3f944f560c5d54ccfc0e9a687c8bcf192f67effc126974cdb423", func := "tribunal/tribunallaw02.DigitsOrder", spec := "digitsOrder", inPlace := ["internal/bytealg.IndexByteString", "internal/bytealg.IndexString"], unfollowed := true, recurses := true, named := ["unicode/utf8.first", "unicode/utf8.acceptRanges", "internal/bytealg.MaxLen"], apart := false, laid := [("unicode/utf8.acceptRanges", laid_unicode_utf8_acceptRanges), ("unicode/utf8.first", laid_unicode_utf8_first)] }
def DigitsOrderSaid : Prop := digitsOrderRow.holds Tryd.pinned (OpenSpec.ofChange digitsOrderSpec)

/-- ITS FALSE NEIGHBOUR: 'it returns false'. Refute it at one input. -/
def digitsOrderWrong : ChangeSpec := { name := "digitsOrder", fn := fun _ => fun
  | [d1, d2] => { results := [.lit (.bool false)], args := [d1, d2] }
  | _ => none }
def DigitsOrderWrongFalsely : Prop := digitsOrderRow.holds Tryd.pinned (OpenSpec.ofChange digitsOrderWrong)

/-- 'tribunallaw02.DigitsNext': WHATEVER THE INPUT: true; the input reads as it did. -/
def digitsNextSpec : ChangeSpec := { name := "digitsNext", fn := fun _ => fun
  | [d1, d2] => { results := [.lit (.bool true)], args := [d1, d2] }
  | _ => none }
def digitsNextRow : OpenClaim := { program := "ytioofejjjgggkaadoor", sum := "e3952ef6717e3f944f560c5d54ccfc0e9a687c8bcf192f67effc126974cdb423", func := "tribunal/tribunallaw02.DigitsNext", spec := "digitsNext", inPlace := ["internal/bytealg.IndexByteString", "internal/bytealg.IndexString"], unfollowed := true, recurses := true, named := ["unicode/utf8.first", "unicode/utf8.acceptRanges", "internal/bytealg.MaxLen"], apart := false, laid := [("unicode/utf8.acceptRanges", laid_unicode_utf8_acceptRanges), ("unicode/utf8.first", laid_unicode_utf8_first)] }
def DigitsNextSaid : Prop := digitsNextRow.holds Tryd.pinned (OpenSpec.ofChange digitsNextSpec)

/-- ITS FALSE NEIGHBOUR: 'it returns false'. Refute it at one input. -/
def digitsNextWrong : ChangeSpec := { name := "digitsNext", fn := fun _ => fun
  | [d1, d2] => { results := [.lit (.bool false)], args := [d1, d2] }
  | _ => none }
def DigitsNextWrongFalsely : Prop := digitsNextRow.holds Tryd.pinned (OpenSpec.ofChange digitsNextWrong)

/-- 'tribunallaw02.DigitsWrong': WHATEVER THE INPUT: true; the input reads as it did. -/
def digitsWrongSpec : ChangeSpec := { name := "digitsWrong", fn := fun _ => fun
  | [d1, d2, d3] => { results := [.lit (.bool true)], args := [d1, d2, d3] }
  | _ => none }
def digitsWrongRow : OpenClaim := { program := "ytioofejjjgggkaadoor", sum := "e3952ef6717e3f944f560c5d54ccfc0e9a687c8bcf192f67effc126974cdb423", func := "tribunal/tribunallaw02.DigitsWrong", spec := "digitsWrong", inPlace := ["internal/bytealg.IndexByteString", "internal/bytealg.IndexString"], unfollowed := true, recurses := true, named := ["unicode/utf8.first", "unicode/utf8.acceptRanges", "internal/bytealg.MaxLen"], apart := false, laid := [("unicode/utf8.acceptRanges", laid_unicode_utf8_acceptRanges), ("unicode/utf8.first", laid_unicode_utf8_first)] }
def DigitsWrongSaid : Prop := digitsWrongRow.holds Tryd.pinned (OpenSpec.ofChange digitsWrongSpec)

/-- ITS FALSE NEIGHBOUR: 'it returns false'. Refute it at one input. -/
def digitsWrongWrong : ChangeSpec := { name := "digitsWrong", fn := fun _ => fun
  | [d1, d2, d3] => { results := [.lit (.bool false)], args := [d1, d2, d3] }
  | _ => none }
def DigitsWrongWrongFalsely : Prop := digitsWrongRow.holds Tryd.pinned (OpenSpec.ofChange digitsWrongWrong)

/-- 'tribunallaw02.DigitsLong': WHATEVER THE INPUT: true; the input reads as it did. -/
def digitsLongSpec : ChangeSpec := { name := "digitsLong", fn := fun _ => fun
  | [d] => { results := [.lit (.bool true)], args := [d] }
  | _ => none }
def digitsLongRow : OpenClaim := { program := "ytioofejjjgggkaadoor", sum := "e3952ef6717e3f944f560c5d54ccfc0e9a687c8bcf192f67effc126974cdb423", func := "tribunal/tribunallaw02.DigitsLong", spec := "digitsLong", inPlace := ["internal/bytealg.IndexByteString", "internal/bytealg.IndexString"], unfollowed := true, recurses := true, named := ["unicode/utf8.first", "unicode/utf8.acceptRanges", "internal/bytealg.MaxLen"], apart := false, laid := [("unicode/utf8.acceptRanges", laid_unicode_utf8_acceptRanges), ("unicode/utf8.first", laid_unicode_utf8_first)] }
def DigitsLongSaid : Prop := digitsLongRow.holds Tryd.pinned (OpenSpec.ofChange digitsLongSpec)

/-- ITS FALSE NEIGHBOUR: 'it returns false'. Refute it at one input. -/
def digitsLongWrong : ChangeSpec := { name := "digitsLong", fn := fun _ => fun
  | [d] => { results := [.lit (.bool false)], args := [d] }
  | _ => none }
def DigitsLongWrongFalsely : Prop := digitsLongRow.holds Tryd.pinned (OpenSpec.ofChange digitsLongWrong)

/-- 'tribunallaw02.DigitsParts': WHATEVER THE INPUT: true; the input reads as it did. -/
def digitsPartsSpec : ChangeSpec := { name := "digitsParts", fn := fun _ => fun
  | [d1, d2] => { results := [.lit (.bool true)], args := [d1, d2] }
  | _ => none }
def digitsPartsRow : OpenClaim := { program := "ytioofejjjgggkaadoor", sum := "e3952ef6717e3f944f560c5d54ccfc0e9a687c8bcf192f67effc126974cdb423", func := "tribunal/tribunallaw02.DigitsParts", spec := "digitsParts", inPlace := ["internal/bytealg.IndexByteString", "internal/bytealg.IndexString"], unfollowed := true, recurses := true, named := ["unicode/utf8.first", "unicode/utf8.acceptRanges", "internal/bytealg.MaxLen"], apart := false, laid := [("unicode/utf8.acceptRanges", laid_unicode_utf8_acceptRanges), ("unicode/utf8.first", laid_unicode_utf8_first)] }
def DigitsPartsSaid : Prop := digitsPartsRow.holds Tryd.pinned (OpenSpec.ofChange digitsPartsSpec)

/-- ITS FALSE NEIGHBOUR: 'it returns false'. Refute it at one input. -/
def digitsPartsWrong : ChangeSpec := { name := "digitsParts", fn := fun _ => fun
  | [d1, d2] => { results := [.lit (.bool false)], args := [d1, d2] }
  | _ => none }
def DigitsPartsWrongFalsely : Prop := digitsPartsRow.holds Tryd.pinned (OpenSpec.ofChange digitsPartsWrong)

/- THE SECOND FORM. 'bulk': how many values and letters a reading holds, each counted each time it is reached (what is shared counts as often as it is met; a slice's spare places count too). A statement '..UptoSaid' is the law's where the arguments, and the package variables that the reading takes, are together of bulk at most 1048576: NARROWER than '..Said'. Prove '..Said' where nothing that the law and all that it calls make is longer than what came in: it says more and counts as full. Else prove '..UptoSaid'. A law counts once. -/
mutual
def uptoBulk {H : Type} : DataW H → Nat
  | .lit (.string bytes) => bytes.length + 1
  | .lit _ => 1
  | .nil => 1
  | .ptr d => uptoBulk d + 1
  | .slice elems spare => uptoBulkAll elems + uptoBulkAll spare + 1
  | .agg parts => uptoBulkAll parts + 1
  | .iface _ d => uptoBulk d + 1
  | .map entries => uptoBulkEntries entries + 1
  | .held _ => 1
def uptoBulkAll {H : Type} : List (DataW H) → Nat
  | [] => 0
  | d :: r => uptoBulk d + uptoBulkAll r
def uptoBulkEntries {H : Type} : List (Lit × DataW H) → Nat
  | [] => 0
  | x :: r => uptoBulkEntry x + uptoBulkEntries r
def uptoBulkEntry {H : Type} : Lit × DataW H → Nat
  | (.string bytes, d) => bytes.length + uptoBulk d + 1
  | (_, d) => uptoBulk d + 1
 end
def uptoSmall : (H : Type) → List (DataW H) → Bool := fun _ ds => decide (uptoBulkAll ds ≤ 1048576)
def OpenSpec.upto (s : _root_.Go.ChangeSpec) : _root_.Go.OpenSpec := { _root_.Go.OpenSpec.ofChange s with cond := some uptoSmall }

/-- 'tribunallaw02.DigitsTells', WHERE WHAT IT READS IS OF BULK AT MOST 1048576: true; the input reads as it did. -/
def digitsTellsUptoRow : OpenClaim := { program := "ytioofejjjgggkaadoor", sum := "e3952ef6717e3f944f560c5d54ccfc0e9a687c8bcf192f67effc126974cdb423", func := "tribunal/tribunallaw02.DigitsTells", spec := "digitsTells", inPlace := ["internal/bytealg.IndexByteString", "internal/bytealg.IndexString"], unfollowed := true, recurses := true, named := ["unicode/utf8.first", "unicode/utf8.acceptRanges", "internal/bytealg.MaxLen"], apart := false, laid := [("unicode/utf8.acceptRanges", laid_unicode_utf8_acceptRanges), ("unicode/utf8.first", laid_unicode_utf8_first)], narrowed := true }
def DigitsTellsUptoSaid : Prop := digitsTellsUptoRow.holds Tryd.pinned (OpenSpec.upto digitsTellsSpec)

/-- 'tribunallaw02.DigitsBack', WHERE WHAT IT READS IS OF BULK AT MOST 1048576: true; the input reads as it did. -/
def digitsBackUptoRow : OpenClaim := { program := "ytioofejjjgggkaadoor", sum := "e3952ef6717e3f944f560c5d54ccfc0e9a687c8bcf192f67effc126974cdb423", func := "tribunal/tribunallaw02.DigitsBack", spec := "digitsBack", inPlace := ["internal/bytealg.IndexByteString", "internal/bytealg.IndexString"], unfollowed := true, recurses := true, named := ["unicode/utf8.first", "unicode/utf8.acceptRanges", "internal/bytealg.MaxLen"], apart := false, laid := [("unicode/utf8.acceptRanges", laid_unicode_utf8_acceptRanges), ("unicode/utf8.first", laid_unicode_utf8_first)], narrowed := true }
def DigitsBackUptoSaid : Prop := digitsBackUptoRow.holds Tryd.pinned (OpenSpec.upto digitsBackSpec)

/-- 'tribunallaw02.DigitsOrder', WHERE WHAT IT READS IS OF BULK AT MOST 1048576: true; the input reads as it did. -/
def digitsOrderUptoRow : OpenClaim := { program := "ytioofejjjgggkaadoor", sum := "e3952ef6717e3f944f560c5d54ccfc0e9a687c8bcf192f67effc126974cdb423", func := "tribunal/tribunallaw02.DigitsOrder", spec := "digitsOrder", inPlace := ["internal/bytealg.IndexByteString", "internal/bytealg.IndexString"], unfollowed := true, recurses := true, named := ["unicode/utf8.first", "unicode/utf8.acceptRanges", "internal/bytealg.MaxLen"], apart := false, laid := [("unicode/utf8.acceptRanges", laid_unicode_utf8_acceptRanges), ("unicode/utf8.first", laid_unicode_utf8_first)], narrowed := true }
def DigitsOrderUptoSaid : Prop := digitsOrderUptoRow.holds Tryd.pinned (OpenSpec.upto digitsOrderSpec)

/-- 'tribunallaw02.DigitsNext', WHERE WHAT IT READS IS OF BULK AT MOST 1048576: true; the input reads as it did. -/
def digitsNextUptoRow : OpenClaim := { program := "ytioofejjjgggkaadoor", sum := "e3952ef6717e3f944f560c5d54ccfc0e9a687c8bcf192f67effc126974cdb423", func := "tribunal/tribunallaw02.DigitsNext", spec := "digitsNext", inPlace := ["internal/bytealg.IndexByteString", "internal/bytealg.IndexString"], unfollowed := true, recurses := true, named := ["unicode/utf8.first", "unicode/utf8.acceptRanges", "internal/bytealg.MaxLen"], apart := false, laid := [("unicode/utf8.acceptRanges", laid_unicode_utf8_acceptRanges), ("unicode/utf8.first", laid_unicode_utf8_first)], narrowed := true }
def DigitsNextUptoSaid : Prop := digitsNextUptoRow.holds Tryd.pinned (OpenSpec.upto digitsNextSpec)

/-- 'tribunallaw02.DigitsWrong', WHERE WHAT IT READS IS OF BULK AT MOST 1048576: true; the input reads as it did. -/
def digitsWrongUptoRow : OpenClaim := { program := "ytioofejjjgggkaadoor", sum := "e3952ef6717e3f944f560c5d54ccfc0e9a687c8bcf192f67effc126974cdb423", func := "tribunal/tribunallaw02.DigitsWrong", spec := "digitsWrong", inPlace := ["internal/bytealg.IndexByteString", "internal/bytealg.IndexString"], unfollowed := true, recurses := true, named := ["unicode/utf8.first", "unicode/utf8.acceptRanges", "internal/bytealg.MaxLen"], apart := false, laid := [("unicode/utf8.acceptRanges", laid_unicode_utf8_acceptRanges), ("unicode/utf8.first", laid_unicode_utf8_first)], narrowed := true }
def DigitsWrongUptoSaid : Prop := digitsWrongUptoRow.holds Tryd.pinned (OpenSpec.upto digitsWrongSpec)

/-- 'tribunallaw02.DigitsLong', WHERE WHAT IT READS IS OF BULK AT MOST 1048576: true; the input reads as it did. -/
def digitsLongUptoRow : OpenClaim := { program := "ytioofejjjgggkaadoor", sum := "e3952ef6717e3f944f560c5d54ccfc0e9a687c8bcf192f67effc126974cdb423", func := "tribunal/tribunallaw02.DigitsLong", spec := "digitsLong", inPlace := ["internal/bytealg.IndexByteString", "internal/bytealg.IndexString"], unfollowed := true, recurses := true, named := ["unicode/utf8.first", "unicode/utf8.acceptRanges", "internal/bytealg.MaxLen"], apart := false, laid := [("unicode/utf8.acceptRanges", laid_unicode_utf8_acceptRanges), ("unicode/utf8.first", laid_unicode_utf8_first)], narrowed := true }
def DigitsLongUptoSaid : Prop := digitsLongUptoRow.holds Tryd.pinned (OpenSpec.upto digitsLongSpec)

/-- 'tribunallaw02.DigitsParts', WHERE WHAT IT READS IS OF BULK AT MOST 1048576: true; the input reads as it did. -/
def digitsPartsUptoRow : OpenClaim := { program := "ytioofejjjgggkaadoor", sum := "e3952ef6717e3f944f560c5d54ccfc0e9a687c8bcf192f67effc126974cdb423", func := "tribunal/tribunallaw02.DigitsParts", spec := "digitsParts", inPlace := ["internal/bytealg.IndexByteString", "internal/bytealg.IndexString"], unfollowed := true, recurses := true, named := ["unicode/utf8.first", "unicode/utf8.acceptRanges", "internal/bytealg.MaxLen"], apart := false, laid := [("unicode/utf8.acceptRanges", laid_unicode_utf8_acceptRanges), ("unicode/utf8.first", laid_unicode_utf8_first)], narrowed := true }
def DigitsPartsUptoSaid : Prop := digitsPartsUptoRow.holds Tryd.pinned (OpenSpec.upto digitsPartsSpec)

end Rows
end Go.Proofs.YtioofejjjgggkaaDoor
