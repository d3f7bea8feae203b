/-
  NARROWER THAN 'FOR EVERY INPUT', by the rows' own cells (each row's printed sentence says how): RatTells: laid · RatField: laid · RatText: laid · RatOrder: laid · RatWhole: laid · RatParts: laid · RatSum: laid.
  DERIVED. THE GIVEN ROWS OF THIS SEAT. 7 by the template 'for every input the law returns true; each argument reads behind the call as it read before'; 0 by the template 'total and deterministic' (their statements: YtfnhohpmhpbpmaaDoorTotals.lean).
  GIVEN WITH THE SEED: the statements are not yours to turn. If you find one false, say at which input.
  Laid BY PROGRAM, IN A SANDBOX (cutbox-rows.mjs): the forced cells as the released guide's own fill.sh prints them over the translation 136a2aebe8cd25ae… (all of the seat's roots in one cut). By AI agents, Wed Nov 11 2026. No macro, syntax, notation, axiom, sorry.
-/
import Derived.Test.YtfnhohpmhpbpmaaDoorChecked
import GoSem.PinnedTables
import GoSem.Claim
import GoSem.ClaimJoined
import GoSem.ClaimMapViews
import Derived.JoinedTies
import Derived.KernelRfl
namespace Go.Proofs.YtfnhohpmhpbpmaaDoor
/- THE CELL 'sum', in the pinned program and in every row, IS THE sha256 OF THE DUMP (.gsa) THAT YtfnhohpmhpbpmaaDoorProg.lean LOADS. Nothing in Lean hashes anything: it is a label: what it is worth is what the hold of that sum in a sandbox is worth. -/
noncomputable def Tryd.pinned : Pinned := { name := "ytfnhohpmhpbpmaadoor", sum := "136a2aebe8cd25ae89e5794e6b2ad25c83395847d2711041fbc1289e34c98bca", checked := Tryd.checked }
namespace Rows
def none {H : Type} : Left H := { results := [], args := [] }

/- WHAT THE LISTED PACKAGE-LEVEL VARIABLES READ AS WHEN THE CALL BEGINS. Each datum BY PROGRAM (the guide's laid-datum.mjs) off the statement by which the dump's own 'gosem.cut.vars' lays the variable. In a bare row this is a premise. The card (YtfnhohpmhpbpmaaDoorCards.lean) ties it to the program's text. -/
def laid_unicode_utf8_acceptRanges {H : Type} : DataW H := .agg [.agg [.lit (.int .u8 128), .lit (.int .u8 191)], .agg [.lit (.int .u8 160), .lit (.int .u8 191)], .agg [.lit (.int .u8 128), .lit (.int .u8 159)], .agg [.lit (.int .u8 144), .lit (.int .u8 191)], .agg [.lit (.int .u8 128), .lit (.int .u8 143)], .agg [.lit (.int .u8 0), .lit (.int .u8 0)], .agg [.lit (.int .u8 0), .lit (.int .u8 0)], .agg [.lit (.int .u8 0), .lit (.int .u8 0)], .agg [.lit (.int .u8 0), .lit (.int .u8 0)], .agg [.lit (.int .u8 0), .lit (.int .u8 0)], .agg [.lit (.int .u8 0), .lit (.int .u8 0)], .agg [.lit (.int .u8 0), .lit (.int .u8 0)], .agg [.lit (.int .u8 0), .lit (.int .u8 0)], .agg [.lit (.int .u8 0), .lit (.int .u8 0)], .agg [.lit (.int .u8 0), .lit (.int .u8 0)], .agg [.lit (.int .u8 0), .lit (.int .u8 0)]]
/-- One of Go's own tables, pinned by name: the form's constant. -/
def laid_unicode_utf8_first : DataW Unit := Go.Pinned.utf8First

/-- 'tribunallaw03.RatTells': WHATEVER THE INPUT: true; the input reads as it did. -/
def ratTellsSpec : ChangeSpec := { name := "ratTells", fn := fun _ => fun
  | [d1, d2] => { results := [.lit (.bool true)], args := [d1, d2] }
  | _ => none }
def ratTellsRow : OpenClaim := { program := "ytfnhohpmhpbpmaadoor", sum := "136a2aebe8cd25ae89e5794e6b2ad25c83395847d2711041fbc1289e34c98bca", func := "tribunal/tribunallaw03.RatTells", spec := "ratTells", inPlace := ["internal/bytealg.IndexByteString", "internal/bytealg.IndexString"], unfollowed := true, recurses := true, named := ["internal/bytealg.MaxLen", "unicode/utf8.first", "unicode/utf8.acceptRanges"], apart := false, laid := [("unicode/utf8.acceptRanges", laid_unicode_utf8_acceptRanges), ("unicode/utf8.first", laid_unicode_utf8_first)] }
def RatTellsSaid : Prop := ratTellsRow.holds Tryd.pinned (OpenSpec.ofChange ratTellsSpec)

/-- ITS FALSE NEIGHBOUR: 'it returns false'. Refute it at one input. -/
def ratTellsWrong : ChangeSpec := { name := "ratTells", fn := fun _ => fun
  | [d1, d2] => { results := [.lit (.bool false)], args := [d1, d2] }
  | _ => none }
def RatTellsWrongFalsely : Prop := ratTellsRow.holds Tryd.pinned (OpenSpec.ofChange ratTellsWrong)

/-- 'tribunallaw03.RatField': WHATEVER THE INPUT: true; the input reads as it did. -/
def ratFieldSpec : ChangeSpec := { name := "ratField", fn := fun _ => fun
  | [d1, d2, d3] => { results := [.lit (.bool true)], args := [d1, d2, d3] }
  | _ => none }
def ratFieldRow : OpenClaim := { program := "ytfnhohpmhpbpmaadoor", sum := "136a2aebe8cd25ae89e5794e6b2ad25c83395847d2711041fbc1289e34c98bca", func := "tribunal/tribunallaw03.RatField", spec := "ratField", inPlace := ["internal/bytealg.IndexByteString", "internal/bytealg.IndexString"], unfollowed := true, recurses := true, named := ["internal/bytealg.MaxLen", "unicode/utf8.first", "unicode/utf8.acceptRanges"], apart := false, laid := [("unicode/utf8.acceptRanges", laid_unicode_utf8_acceptRanges), ("unicode/utf8.first", laid_unicode_utf8_first)] }
def RatFieldSaid : Prop := ratFieldRow.holds Tryd.pinned (OpenSpec.ofChange ratFieldSpec)

/-- ITS FALSE NEIGHBOUR: 'it returns false'. Refute it at one input. -/
def ratFieldWrong : ChangeSpec := { name := "ratField", fn := fun _ => fun
  | [d1, d2, d3] => { results := [.lit (.bool false)], args := [d1, d2, d3] }
  | _ => none }
def RatFieldWrongFalsely : Prop := ratFieldRow.holds Tryd.pinned (OpenSpec.ofChange ratFieldWrong)

/-- 'tribunallaw03.RatText': WHATEVER THE INPUT: true; the input reads as it did. -/
def ratTextSpec : ChangeSpec := { name := "ratText", fn := fun _ => fun
  | [d1, d2] => { results := [.lit (.bool true)], args := [d1, d2] }
  | _ => none }
def ratTextRow : OpenClaim := { program := "ytfnhohpmhpbpmaadoor", sum := "136a2aebe8cd25ae89e5794e6b2ad25c83395847d2711041fbc1289e34c98bca", func := "tribunal/tribunallaw03.RatText", spec := "ratText", inPlace := ["internal/bytealg.IndexByteString", "internal/bytealg.IndexString"], unfollowed := true, recurses := true, named := ["internal/bytealg.MaxLen", "unicode/utf8.first", "unicode/utf8.acceptRanges"], apart := false, laid := [("unicode/utf8.acceptRanges", laid_unicode_utf8_acceptRanges), ("unicode/utf8.first", laid_unicode_utf8_first)] }
def RatTextSaid : Prop := ratTextRow.holds Tryd.pinned (OpenSpec.ofChange ratTextSpec)

/-- ITS FALSE NEIGHBOUR: 'it returns false'. Refute it at one input. -/
def ratTextWrong : ChangeSpec := { name := "ratText", fn := fun _ => fun
  | [d1, d2] => { results := [.lit (.bool false)], args := [d1, d2] }
  | _ => none }
def RatTextWrongFalsely : Prop := ratTextRow.holds Tryd.pinned (OpenSpec.ofChange ratTextWrong)

/-- 'tribunallaw03.RatOrder': WHATEVER THE INPUT: true; the input reads as it did. -/
def ratOrderSpec : ChangeSpec := { name := "ratOrder", fn := fun _ => fun
  | [d1, d2, d3] => { results := [.lit (.bool true)], args := [d1, d2, d3] }
  | _ => none }
def ratOrderRow : OpenClaim := { program := "ytfnhohpmhpbpmaadoor", sum := "136a2aebe8cd25ae89e5794e6b2ad25c83395847d2711041fbc1289e34c98bca", func := "tribunal/tribunallaw03.RatOrder", spec := "ratOrder", inPlace := ["internal/bytealg.IndexByteString", "internal/bytealg.IndexString"], unfollowed := true, recurses := true, named := ["internal/bytealg.MaxLen", "unicode/utf8.first", "unicode/utf8.acceptRanges"], apart := false, laid := [("unicode/utf8.acceptRanges", laid_unicode_utf8_acceptRanges), ("unicode/utf8.first", laid_unicode_utf8_first)] }
def RatOrderSaid : Prop := ratOrderRow.holds Tryd.pinned (OpenSpec.ofChange ratOrderSpec)

/-- ITS FALSE NEIGHBOUR: 'it returns false'. Refute it at one input. -/
def ratOrderWrong : ChangeSpec := { name := "ratOrder", fn := fun _ => fun
  | [d1, d2, d3] => { results := [.lit (.bool false)], args := [d1, d2, d3] }
  | _ => none }
def RatOrderWrongFalsely : Prop := ratOrderRow.holds Tryd.pinned (OpenSpec.ofChange ratOrderWrong)

/-- 'tribunallaw03.RatWhole': WHATEVER THE INPUT: true; the input reads as it did. -/
def ratWholeSpec : ChangeSpec := { name := "ratWhole", fn := fun _ => fun
  | [d1, d2] => { results := [.lit (.bool true)], args := [d1, d2] }
  | _ => none }
def ratWholeRow : OpenClaim := { program := "ytfnhohpmhpbpmaadoor", sum := "136a2aebe8cd25ae89e5794e6b2ad25c83395847d2711041fbc1289e34c98bca", func := "tribunal/tribunallaw03.RatWhole", spec := "ratWhole", inPlace := ["internal/bytealg.IndexByteString", "internal/bytealg.IndexString"], unfollowed := true, recurses := true, named := ["internal/bytealg.MaxLen", "unicode/utf8.first", "unicode/utf8.acceptRanges"], apart := false, laid := [("unicode/utf8.acceptRanges", laid_unicode_utf8_acceptRanges), ("unicode/utf8.first", laid_unicode_utf8_first)] }
def RatWholeSaid : Prop := ratWholeRow.holds Tryd.pinned (OpenSpec.ofChange ratWholeSpec)

/-- ITS FALSE NEIGHBOUR: 'it returns false'. Refute it at one input. -/
def ratWholeWrong : ChangeSpec := { name := "ratWhole", fn := fun _ => fun
  | [d1, d2] => { results := [.lit (.bool false)], args := [d1, d2] }
  | _ => none }
def RatWholeWrongFalsely : Prop := ratWholeRow.holds Tryd.pinned (OpenSpec.ofChange ratWholeWrong)

/-- 'tribunallaw03.RatParts': WHATEVER THE INPUT: true; the input reads as it did. -/
def ratPartsSpec : ChangeSpec := { name := "ratParts", fn := fun _ => fun
  | [d] => { results := [.lit (.bool true)], args := [d] }
  | _ => none }
def ratPartsRow : OpenClaim := { program := "ytfnhohpmhpbpmaadoor", sum := "136a2aebe8cd25ae89e5794e6b2ad25c83395847d2711041fbc1289e34c98bca", func := "tribunal/tribunallaw03.RatParts", spec := "ratParts", inPlace := ["internal/bytealg.IndexByteString", "internal/bytealg.IndexString"], unfollowed := true, recurses := true, named := ["internal/bytealg.MaxLen", "unicode/utf8.first", "unicode/utf8.acceptRanges"], apart := false, laid := [("unicode/utf8.acceptRanges", laid_unicode_utf8_acceptRanges), ("unicode/utf8.first", laid_unicode_utf8_first)] }
def RatPartsSaid : Prop := ratPartsRow.holds Tryd.pinned (OpenSpec.ofChange ratPartsSpec)

/-- ITS FALSE NEIGHBOUR: 'it returns false'. Refute it at one input. -/
def ratPartsWrong : ChangeSpec := { name := "ratParts", fn := fun _ => fun
  | [d] => { results := [.lit (.bool false)], args := [d] }
  | _ => none }
def RatPartsWrongFalsely : Prop := ratPartsRow.holds Tryd.pinned (OpenSpec.ofChange ratPartsWrong)

/-- 'tribunallaw03.RatSum': WHATEVER THE INPUT: true; the input reads as it did. -/
def ratSumSpec : ChangeSpec := { name := "ratSum", fn := fun _ => fun
  | [d1, d2] => { results := [.lit (.bool true)], args := [d1, d2] }
  | _ => none }
def ratSumRow : OpenClaim := { program := "ytfnhohpmhpbpmaadoor", sum := "136a2aebe8cd25ae89e5794e6b2ad25c83395847d2711041fbc1289e34c98bca", func := "tribunal/tribunallaw03.RatSum", spec := "ratSum", inPlace := ["internal/bytealg.IndexByteString", "internal/bytealg.IndexString"], unfollowed := true, recurses := true, named := ["internal/bytealg.MaxLen", "unicode/utf8.first", "unicode/utf8.acceptRanges"], apart := false, laid := [("unicode/utf8.acceptRanges", laid_unicode_utf8_acceptRanges), ("unicode/utf8.first", laid_unicode_utf8_first)] }
def RatSumSaid : Prop := ratSumRow.holds Tryd.pinned (OpenSpec.ofChange ratSumSpec)

/-- ITS FALSE NEIGHBOUR: 'it returns false'. Refute it at one input. -/
def ratSumWrong : ChangeSpec := { name := "ratSum", fn := fun _ => fun
  | [d1, d2] => { results := [.lit (.bool false)], args := [d1, d2] }
  | _ => none }
def RatSumWrongFalsely : Prop := ratSumRow.holds Tryd.pinned (OpenSpec.ofChange ratSumWrong)

/- THE SECOND FORM. 'bulk': how many values and letters a reading holds, each counted each time it is reached (what is shared counts as often as it is met; a slice's spare places count too). A statement '..UptoSaid' is the law's where the arguments, and the package variables that the reading takes, are together of bulk at most 1048576: NARROWER than '..Said'. Prove '..Said' where nothing that the law and all that it calls make is longer than what came in: it says more and counts as full. Else prove '..UptoSaid'. A law counts once. -/
mutual
def uptoBulk {H : Type} : DataW H → Nat
  | .lit (.string bytes) => bytes.length + 1
  | .lit _ => 1
  | .nil => 1
  | .ptr d => uptoBulk d + 1
  | .slice elems spare => uptoBulkAll elems + uptoBulkAll spare + 1
  | .agg parts => uptoBulkAll parts + 1
  | .iface _ d => uptoBulk d + 1
  | .map entries => uptoBulkEntries entries + 1
  | .held _ => 1
def uptoBulkAll {H : Type} : List (DataW H) → Nat
  | [] => 0
  | d :: r => uptoBulk d + uptoBulkAll r
def uptoBulkEntries {H : Type} : List (Lit × DataW H) → Nat
  | [] => 0
  | x :: r => uptoBulkEntry x + uptoBulkEntries r
def uptoBulkEntry {H : Type} : Lit × DataW H → Nat
  | (.string bytes, d) => bytes.length + uptoBulk d + 1
  | (_, d) => uptoBulk d + 1
 end
def uptoSmall : (H : Type) → List (DataW H) → Bool := fun _ ds => decide (uptoBulkAll ds ≤ 1048576)
def OpenSpec.upto (s : _root_.Go.ChangeSpec) : _root_.Go.OpenSpec := { _root_.Go.OpenSpec.ofChange s with cond := some uptoSmall }

/-- 'tribunallaw03.RatTells', WHERE WHAT IT READS IS OF BULK AT MOST 1048576: true; the input reads as it did. -/
def ratTellsUptoRow : OpenClaim := { program := "ytfnhohpmhpbpmaadoor", sum := "136a2aebe8cd25ae89e5794e6b2ad25c83395847d2711041fbc1289e34c98bca", func := "tribunal/tribunallaw03.RatTells", spec := "ratTells", inPlace := ["internal/bytealg.IndexByteString", "internal/bytealg.IndexString"], unfollowed := true, recurses := true, named := ["internal/bytealg.MaxLen", "unicode/utf8.first", "unicode/utf8.acceptRanges"], apart := false, laid := [("unicode/utf8.acceptRanges", laid_unicode_utf8_acceptRanges), ("unicode/utf8.first", laid_unicode_utf8_first)], narrowed := true }
def RatTellsUptoSaid : Prop := ratTellsUptoRow.holds Tryd.pinned (OpenSpec.upto ratTellsSpec)

/-- 'tribunallaw03.RatField', WHERE WHAT IT READS IS OF BULK AT MOST 1048576: true; the input reads as it did. -/
def ratFieldUptoRow : OpenClaim := { program := "ytfnhohpmhpbpmaadoor", sum := "136a2aebe8cd25ae89e5794e6b2ad25c83395847d2711041fbc1289e34c98bca", func := "tribunal/tribunallaw03.RatField", spec := "ratField", inPlace := ["internal/bytealg.IndexByteString", "internal/bytealg.IndexString"], unfollowed := true, recurses := true, named := ["internal/bytealg.MaxLen", "unicode/utf8.first", "unicode/utf8.acceptRanges"], apart := false, laid := [("unicode/utf8.acceptRanges", laid_unicode_utf8_acceptRanges), ("unicode/utf8.first", laid_unicode_utf8_first)], narrowed := true }
def RatFieldUptoSaid : Prop := ratFieldUptoRow.holds Tryd.pinned (OpenSpec.upto ratFieldSpec)

/-- 'tribunallaw03.RatText', WHERE WHAT IT READS IS OF BULK AT MOST 1048576: true; the input reads as it did. -/
def ratTextUptoRow : OpenClaim := { program := "ytfnhohpmhpbpmaadoor", sum := "136a2aebe8cd25ae89e5794e6b2ad25c83395847d2711041fbc1289e34c98bca", func := "tribunal/tribunallaw03.RatText", spec := "ratText", inPlace := ["internal/bytealg.IndexByteString", "internal/bytealg.IndexString"], unfollowed := true, recurses := true, named := ["internal/bytealg.MaxLen", "unicode/utf8.first", "unicode/utf8.acceptRanges"], apart := false, laid := [("unicode/utf8.acceptRanges", laid_unicode_utf8_acceptRanges), ("unicode/utf8.first", laid_unicode_utf8_first)], narrowed := true }
def RatTextUptoSaid : Prop := ratTextUptoRow.holds Tryd.pinned (OpenSpec.upto ratTextSpec)

/-- 'tribunallaw03.RatOrder', WHERE WHAT IT READS IS OF BULK AT MOST 1048576: true; the input reads as it did. -/
def ratOrderUptoRow : OpenClaim := { program := "ytfnhohpmhpbpmaadoor", sum := "136a2aebe8cd25ae89e5794e6b2ad25c83395847d2711041fbc1289e34c98bca", func := "tribunal/tribunallaw03.RatOrder", spec := "ratOrder", inPlace := ["internal/bytealg.IndexByteString", "internal/bytealg.IndexString"], unfollowed := true, recurses := true, named := ["internal/bytealg.MaxLen", "unicode/utf8.first", "unicode/utf8.acceptRanges"], apart := false, laid := [("unicode/utf8.acceptRanges", laid_unicode_utf8_acceptRanges), ("unicode/utf8.first", laid_unicode_utf8_first)], narrowed := true }
def RatOrderUptoSaid : Prop := ratOrderUptoRow.holds Tryd.pinned (OpenSpec.upto ratOrderSpec)

/-- 'tribunallaw03.RatWhole', WHERE WHAT IT READS IS OF BULK AT MOST 1048576: true; the input reads as it did. -/
def ratWholeUptoRow : OpenClaim := { program := "ytfnhohpmhpbpmaadoor", sum := "136a2aebe8cd25ae89e5794e6b2ad25c83395847d2711041fbc1289e34c98bca", func := "tribunal/tribunallaw03.RatWhole", spec := "ratWhole", inPlace := ["internal/bytealg.IndexByteString", "internal/bytealg.IndexString"], unfollowed := true, recurses := true, named := ["internal/bytealg.MaxLen", "unicode/utf8.first", "unicode/utf8.acceptRanges"], apart := false, laid := [("unicode/utf8.acceptRanges", laid_unicode_utf8_acceptRanges), ("unicode/utf8.first", laid_unicode_utf8_first)], narrowed := true }
def RatWholeUptoSaid : Prop := ratWholeUptoRow.holds Tryd.pinned (OpenSpec.upto ratWholeSpec)

/-- 'tribunallaw03.RatParts', WHERE WHAT IT READS IS OF BULK AT MOST 1048576: true; the input reads as it did. -/
def ratPartsUptoRow : OpenClaim := { program := "ytfnhohpmhpbpmaadoor", sum := "136a2aebe8cd25ae89e5794e6b2ad25c83395847d2711041fbc1289e34c98bca", func := "tribunal/tribunallaw03.RatParts", spec := "ratParts", inPlace := ["internal/bytealg.IndexByteString", "internal/bytealg.IndexString"], unfollowed := true, recurses := true, named := ["internal/bytealg.MaxLen", "unicode/utf8.first", "unicode/utf8.acceptRanges"], apart := false, laid := [("unicode/utf8.acceptRanges", laid_unicode_utf8_acceptRanges), ("unicode/utf8.first", laid_unicode_utf8_first)], narrowed := true }
def RatPartsUptoSaid : Prop := ratPartsUptoRow.holds Tryd.pinned (OpenSpec.upto ratPartsSpec)

/-- 'tribunallaw03.RatSum', WHERE WHAT IT READS IS OF BULK AT MOST 1048576: true; the input reads as it did. -/
def ratSumUptoRow : OpenClaim := { program := "ytfnhohpmhpbpmaadoor", sum := "136a2aebe8cd25ae89e5794e6b2ad25c83395847d2711041fbc1289e34c98bca", func := "tribunal/tribunallaw03.RatSum", spec := "ratSum", inPlace := ["internal/bytealg.IndexByteString", "internal/bytealg.IndexString"], unfollowed := true, recurses := true, named := ["internal/bytealg.MaxLen", "unicode/utf8.first", "unicode/utf8.acceptRanges"], apart := false, laid := [("unicode/utf8.acceptRanges", laid_unicode_utf8_acceptRanges), ("unicode/utf8.first", laid_unicode_utf8_first)], narrowed := true }
def RatSumUptoSaid : Prop := ratSumUptoRow.holds Tryd.pinned (OpenSpec.upto ratSumSpec)

end Rows
end Go.Proofs.YtfnhohpmhpbpmaaDoor
