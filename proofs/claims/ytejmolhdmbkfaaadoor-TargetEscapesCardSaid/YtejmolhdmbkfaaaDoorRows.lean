/-
  NARROWER THAN 'FOR EVERY INPUT', by the rows' own cells (each row's printed sentence says how): TargetReads: laid · TargetWrites: laid · TargetBack: laid · TargetEscapes: laid · TargetTwice: laid.
  DERIVED. THE GIVEN ROWS OF THIS SEAT. 5 by the template 'for every input the law returns true; each argument reads behind the call as it read before'; 0 by the template 'total and deterministic' (their statements: YtejmolhdmbkfaaaDoorTotals.lean).
  GIVEN WITH THE SEED: the statements are not yours to turn. If you find one false, say at which input.
  Laid BY PROGRAM, IN A SANDBOX (cutbox-rows.mjs): the forced cells as the released guide's own fill.sh prints them over the translation 49bed62c3b6258ea… (all of the seat's roots in one cut). By AI agents, Wed Nov 11 2026. No macro, syntax, notation, axiom, sorry.
-/
import Derived.Test.YtejmolhdmbkfaaaDoorChecked
import GoSem.PinnedTables
import GoSem.Claim
import GoSem.ClaimJoined
import GoSem.ClaimMapViews
import Derived.JoinedTies
import Derived.KernelRfl
namespace Go.Proofs.YtejmolhdmbkfaaaDoor
/- THE CELL 'sum', in the pinned program and in every row, IS THE sha256 OF THE DUMP (.gsa) THAT YtejmolhdmbkfaaaDoorProg.lean LOADS. Nothing in Lean hashes anything: it is a label: what it is worth is what the hold of that sum in a sandbox is worth. -/
noncomputable def Tryd.pinned : Pinned := { name := "ytejmolhdmbkfaaadoor", sum := "49bed62c3b6258ea956a4345fa9b41d0ab6fd7eced3c1ba7312c261b0bcfbc7e", checked := Tryd.checked }
namespace Rows
def none {H : Type} : Left H := { results := [], args := [] }

/- WHAT THE LISTED PACKAGE-LEVEL VARIABLES READ AS WHEN THE CALL BEGINS. Each datum BY PROGRAM (the guide's laid-datum.mjs) off the statement by which the dump's own 'gosem.cut.vars' lays the variable. In a bare row this is a premise. The card (YtejmolhdmbkfaaaDoorCards.lean) ties it to the program's text. -/
def laid_unicode_utf8_acceptRanges {H : Type} : DataW H := .agg [.agg [.lit (.int .u8 128), .lit (.int .u8 191)], .agg [.lit (.int .u8 160), .lit (.int .u8 191)], .agg [.lit (.int .u8 128), .lit (.int .u8 159)], .agg [.lit (.int .u8 144), .lit (.int .u8 191)], .agg [.lit (.int .u8 128), .lit (.int .u8 143)], .agg [.lit (.int .u8 0), .lit (.int .u8 0)], .agg [.lit (.int .u8 0), .lit (.int .u8 0)], .agg [.lit (.int .u8 0), .lit (.int .u8 0)], .agg [.lit (.int .u8 0), .lit (.int .u8 0)], .agg [.lit (.int .u8 0), .lit (.int .u8 0)], .agg [.lit (.int .u8 0), .lit (.int .u8 0)], .agg [.lit (.int .u8 0), .lit (.int .u8 0)], .agg [.lit (.int .u8 0), .lit (.int .u8 0)], .agg [.lit (.int .u8 0), .lit (.int .u8 0)], .agg [.lit (.int .u8 0), .lit (.int .u8 0)], .agg [.lit (.int .u8 0), .lit (.int .u8 0)]]
/-- One of Go's own tables, pinned by name: the form's constant. -/
def laid_unicode_utf8_first : DataW Unit := Go.Pinned.utf8First

/-- 'cofferlaw21.TargetReads': WHATEVER THE INPUT: true; the input reads as it did. -/
def targetReadsSpec : ChangeSpec := { name := "targetReads", fn := fun _ => fun
  | [d] => { results := [.lit (.bool true)], args := [d] }
  | _ => none }
def targetReadsRow : OpenClaim := { program := "ytejmolhdmbkfaaadoor", sum := "49bed62c3b6258ea956a4345fa9b41d0ab6fd7eced3c1ba7312c261b0bcfbc7e", func := "coffer/cofferlaw21.TargetReads", spec := "targetReads", inPlace := ["internal/bytealg.IndexByteString", "internal/bytealg.IndexString", "internal/bytealg.CountString", "internal/abi.NoEscape"], named := ["internal/bytealg.MaxLen", "unicode/utf8.first", "unicode/utf8.acceptRanges"], apart := false, laid := [("unicode/utf8.acceptRanges", laid_unicode_utf8_acceptRanges), ("unicode/utf8.first", laid_unicode_utf8_first)] }
def TargetReadsSaid : Prop := targetReadsRow.holds Tryd.pinned (OpenSpec.ofChange targetReadsSpec)

/-- ITS FALSE NEIGHBOUR: 'it returns false'. Refute it at one input. -/
def targetReadsWrong : ChangeSpec := { name := "targetReads", fn := fun _ => fun
  | [d] => { results := [.lit (.bool false)], args := [d] }
  | _ => none }
def TargetReadsWrongFalsely : Prop := targetReadsRow.holds Tryd.pinned (OpenSpec.ofChange targetReadsWrong)

/-- 'cofferlaw21.TargetWrites': WHATEVER THE INPUT: true; the input reads as it did. -/
def targetWritesSpec : ChangeSpec := { name := "targetWrites", fn := fun _ => fun
  | [d1, d2] => { results := [.lit (.bool true)], args := [d1, d2] }
  | _ => none }
def targetWritesRow : OpenClaim := { program := "ytejmolhdmbkfaaadoor", sum := "49bed62c3b6258ea956a4345fa9b41d0ab6fd7eced3c1ba7312c261b0bcfbc7e", func := "coffer/cofferlaw21.TargetWrites", spec := "targetWrites", inPlace := ["internal/bytealg.IndexByteString", "internal/bytealg.IndexString", "internal/bytealg.CountString", "internal/abi.NoEscape"], named := ["internal/bytealg.MaxLen", "unicode/utf8.first", "unicode/utf8.acceptRanges"], apart := false, laid := [("unicode/utf8.acceptRanges", laid_unicode_utf8_acceptRanges), ("unicode/utf8.first", laid_unicode_utf8_first)] }
def TargetWritesSaid : Prop := targetWritesRow.holds Tryd.pinned (OpenSpec.ofChange targetWritesSpec)

/-- ITS FALSE NEIGHBOUR: 'it returns false'. Refute it at one input. -/
def targetWritesWrong : ChangeSpec := { name := "targetWrites", fn := fun _ => fun
  | [d1, d2] => { results := [.lit (.bool false)], args := [d1, d2] }
  | _ => none }
def TargetWritesWrongFalsely : Prop := targetWritesRow.holds Tryd.pinned (OpenSpec.ofChange targetWritesWrong)

/-- 'cofferlaw21.TargetBack': WHATEVER THE INPUT: true; the input reads as it did. -/
def targetBackSpec : ChangeSpec := { name := "targetBack", fn := fun _ => fun
  | [d] => { results := [.lit (.bool true)], args := [d] }
  | _ => none }
def targetBackRow : OpenClaim := { program := "ytejmolhdmbkfaaadoor", sum := "49bed62c3b6258ea956a4345fa9b41d0ab6fd7eced3c1ba7312c261b0bcfbc7e", func := "coffer/cofferlaw21.TargetBack", spec := "targetBack", inPlace := ["internal/bytealg.IndexByteString", "internal/bytealg.IndexString", "internal/bytealg.CountString", "internal/abi.NoEscape"], named := ["internal/bytealg.MaxLen", "unicode/utf8.first", "unicode/utf8.acceptRanges"], apart := false, laid := [("unicode/utf8.acceptRanges", laid_unicode_utf8_acceptRanges), ("unicode/utf8.first", laid_unicode_utf8_first)] }
def TargetBackSaid : Prop := targetBackRow.holds Tryd.pinned (OpenSpec.ofChange targetBackSpec)

/-- ITS FALSE NEIGHBOUR: 'it returns false'. Refute it at one input. -/
def targetBackWrong : ChangeSpec := { name := "targetBack", fn := fun _ => fun
  | [d] => { results := [.lit (.bool false)], args := [d] }
  | _ => none }
def TargetBackWrongFalsely : Prop := targetBackRow.holds Tryd.pinned (OpenSpec.ofChange targetBackWrong)

/-- 'cofferlaw21.TargetEscapes': WHATEVER THE INPUT: true; the input reads as it did. -/
def targetEscapesSpec : ChangeSpec := { name := "targetEscapes", fn := fun _ => fun
  | [d1, d2] => { results := [.lit (.bool true)], args := [d1, d2] }
  | _ => none }
def targetEscapesRow : OpenClaim := { program := "ytejmolhdmbkfaaadoor", sum := "49bed62c3b6258ea956a4345fa9b41d0ab6fd7eced3c1ba7312c261b0bcfbc7e", func := "coffer/cofferlaw21.TargetEscapes", spec := "targetEscapes", inPlace := ["internal/bytealg.IndexByteString", "internal/bytealg.IndexString", "internal/bytealg.CountString", "internal/abi.NoEscape"], named := ["internal/bytealg.MaxLen", "unicode/utf8.first", "unicode/utf8.acceptRanges"], apart := false, laid := [("unicode/utf8.acceptRanges", laid_unicode_utf8_acceptRanges), ("unicode/utf8.first", laid_unicode_utf8_first)] }
def TargetEscapesSaid : Prop := targetEscapesRow.holds Tryd.pinned (OpenSpec.ofChange targetEscapesSpec)

/-- ITS FALSE NEIGHBOUR: 'it returns false'. Refute it at one input. -/
def targetEscapesWrong : ChangeSpec := { name := "targetEscapes", fn := fun _ => fun
  | [d1, d2] => { results := [.lit (.bool false)], args := [d1, d2] }
  | _ => none }
def TargetEscapesWrongFalsely : Prop := targetEscapesRow.holds Tryd.pinned (OpenSpec.ofChange targetEscapesWrong)

/-- 'cofferlaw21.TargetTwice': WHATEVER THE INPUT: true; the input reads as it did. -/
def targetTwiceSpec : ChangeSpec := { name := "targetTwice", fn := fun _ => fun
  | [d1, d2, d3, d4] => { results := [.lit (.bool true)], args := [d1, d2, d3, d4] }
  | _ => none }
def targetTwiceRow : OpenClaim := { program := "ytejmolhdmbkfaaadoor", sum := "49bed62c3b6258ea956a4345fa9b41d0ab6fd7eced3c1ba7312c261b0bcfbc7e", func := "coffer/cofferlaw21.TargetTwice", spec := "targetTwice", inPlace := ["internal/bytealg.IndexByteString", "internal/bytealg.IndexString", "internal/bytealg.CountString", "internal/abi.NoEscape"], named := ["internal/bytealg.MaxLen", "unicode/utf8.first", "unicode/utf8.acceptRanges"], apart := false, laid := [("unicode/utf8.acceptRanges", laid_unicode_utf8_acceptRanges), ("unicode/utf8.first", laid_unicode_utf8_first)] }
def TargetTwiceSaid : Prop := targetTwiceRow.holds Tryd.pinned (OpenSpec.ofChange targetTwiceSpec)

/-- ITS FALSE NEIGHBOUR: 'it returns false'. Refute it at one input. -/
def targetTwiceWrong : ChangeSpec := { name := "targetTwice", fn := fun _ => fun
  | [d1, d2, d3, d4] => { results := [.lit (.bool false)], args := [d1, d2, d3, d4] }
  | _ => none }
def TargetTwiceWrongFalsely : Prop := targetTwiceRow.holds Tryd.pinned (OpenSpec.ofChange targetTwiceWrong)

/- THE SECOND FORM. 'bulk': how many values and letters a reading holds, each counted each time it is reached (what is shared counts as often as it is met; a slice's spare places count too). A statement '..UptoSaid' is the law's where the arguments, and the package variables that the reading takes, are together of bulk at most 1048576: NARROWER than '..Said'. Prove '..Said' where nothing that the law and all that it calls make is longer than what came in: it says more and counts as full. Else prove '..UptoSaid'. A law counts once. -/
mutual
def uptoBulk {H : Type} : DataW H → Nat
  | .lit (.string bytes) => bytes.length + 1
  | .lit _ => 1
  | .nil => 1
  | .ptr d => uptoBulk d + 1
  | .slice elems spare => uptoBulkAll elems + uptoBulkAll spare + 1
  | .agg parts => uptoBulkAll parts + 1
  | .iface _ d => uptoBulk d + 1
  | .map entries => uptoBulkEntries entries + 1
  | .held _ => 1
def uptoBulkAll {H : Type} : List (DataW H) → Nat
  | [] => 0
  | d :: r => uptoBulk d + uptoBulkAll r
def uptoBulkEntries {H : Type} : List (Lit × DataW H) → Nat
  | [] => 0
  | x :: r => uptoBulkEntry x + uptoBulkEntries r
def uptoBulkEntry {H : Type} : Lit × DataW H → Nat
  | (.string bytes, d) => bytes.length + uptoBulk d + 1
  | (_, d) => uptoBulk d + 1
 end
def uptoSmall : (H : Type) → List (DataW H) → Bool := fun _ ds => decide (uptoBulkAll ds ≤ 1048576)
def OpenSpec.upto (s : _root_.Go.ChangeSpec) : _root_.Go.OpenSpec := { _root_.Go.OpenSpec.ofChange s with cond := some uptoSmall }

/-- 'cofferlaw21.TargetReads', WHERE WHAT IT READS IS OF BULK AT MOST 1048576: true; the input reads as it did. -/
def targetReadsUptoRow : OpenClaim := { program := "ytejmolhdmbkfaaadoor", sum := "49bed62c3b6258ea956a4345fa9b41d0ab6fd7eced3c1ba7312c261b0bcfbc7e", func := "coffer/cofferlaw21.TargetReads", spec := "targetReads", inPlace := ["internal/bytealg.IndexByteString", "internal/bytealg.IndexString", "internal/bytealg.CountString", "internal/abi.NoEscape"], named := ["internal/bytealg.MaxLen", "unicode/utf8.first", "unicode/utf8.acceptRanges"], apart := false, laid := [("unicode/utf8.acceptRanges", laid_unicode_utf8_acceptRanges), ("unicode/utf8.first", laid_unicode_utf8_first)], narrowed := true }
def TargetReadsUptoSaid : Prop := targetReadsUptoRow.holds Tryd.pinned (OpenSpec.upto targetReadsSpec)

/-- 'cofferlaw21.TargetWrites', WHERE WHAT IT READS IS OF BULK AT MOST 1048576: true; the input reads as it did. -/
def targetWritesUptoRow : OpenClaim := { program := "ytejmolhdmbkfaaadoor", sum := "49bed62c3b6258ea956a4345fa9b41d0ab6fd7eced3c1ba7312c261b0bcfbc7e", func := "coffer/cofferlaw21.TargetWrites", spec := "targetWrites", inPlace := ["internal/bytealg.IndexByteString", "internal/bytealg.IndexString", "internal/bytealg.CountString", "internal/abi.NoEscape"], named := ["internal/bytealg.MaxLen", "unicode/utf8.first", "unicode/utf8.acceptRanges"], apart := false, laid := [("unicode/utf8.acceptRanges", laid_unicode_utf8_acceptRanges), ("unicode/utf8.first", laid_unicode_utf8_first)], narrowed := true }
def TargetWritesUptoSaid : Prop := targetWritesUptoRow.holds Tryd.pinned (OpenSpec.upto targetWritesSpec)

/-- 'cofferlaw21.TargetBack', WHERE WHAT IT READS IS OF BULK AT MOST 1048576: true; the input reads as it did. -/
def targetBackUptoRow : OpenClaim := { program := "ytejmolhdmbkfaaadoor", sum := "49bed62c3b6258ea956a4345fa9b41d0ab6fd7eced3c1ba7312c261b0bcfbc7e", func := "coffer/cofferlaw21.TargetBack", spec := "targetBack", inPlace := ["internal/bytealg.IndexByteString", "internal/bytealg.IndexString", "internal/bytealg.CountString", "internal/abi.NoEscape"], named := ["internal/bytealg.MaxLen", "unicode/utf8.first", "unicode/utf8.acceptRanges"], apart := false, laid := [("unicode/utf8.acceptRanges", laid_unicode_utf8_acceptRanges), ("unicode/utf8.first", laid_unicode_utf8_first)], narrowed := true }
def TargetBackUptoSaid : Prop := targetBackUptoRow.holds Tryd.pinned (OpenSpec.upto targetBackSpec)

/-- 'cofferlaw21.TargetEscapes', WHERE WHAT IT READS IS OF BULK AT MOST 1048576: true; the input reads as it did. -/
def targetEscapesUptoRow : OpenClaim := { program := "ytejmolhdmbkfaaadoor", sum := "49bed62c3b6258ea956a4345fa9b41d0ab6fd7eced3c1ba7312c261b0bcfbc7e", func := "coffer/cofferlaw21.TargetEscapes", spec := "targetEscapes", inPlace := ["internal/bytealg.IndexByteString", "internal/bytealg.IndexString", "internal/bytealg.CountString", "internal/abi.NoEscape"], named := ["internal/bytealg.MaxLen", "unicode/utf8.first", "unicode/utf8.acceptRanges"], apart := false, laid := [("unicode/utf8.acceptRanges", laid_unicode_utf8_acceptRanges), ("unicode/utf8.first", laid_unicode_utf8_first)], narrowed := true }
def TargetEscapesUptoSaid : Prop := targetEscapesUptoRow.holds Tryd.pinned (OpenSpec.upto targetEscapesSpec)

/-- 'cofferlaw21.TargetTwice', WHERE WHAT IT READS IS OF BULK AT MOST 1048576: true; the input reads as it did. -/
def targetTwiceUptoRow : OpenClaim := { program := "ytejmolhdmbkfaaadoor", sum := "49bed62c3b6258ea956a4345fa9b41d0ab6fd7eced3c1ba7312c261b0bcfbc7e", func := "coffer/cofferlaw21.TargetTwice", spec := "targetTwice", inPlace := ["internal/bytealg.IndexByteString", "internal/bytealg.IndexString", "internal/bytealg.CountString", "internal/abi.NoEscape"], named := ["internal/bytealg.MaxLen", "unicode/utf8.first", "unicode/utf8.acceptRanges"], apart := false, laid := [("unicode/utf8.acceptRanges", laid_unicode_utf8_acceptRanges), ("unicode/utf8.first", laid_unicode_utf8_first)], narrowed := true }
def TargetTwiceUptoSaid : Prop := targetTwiceUptoRow.holds Tryd.pinned (OpenSpec.upto targetTwiceSpec)

end Rows
end Go.Proofs.YtejmolhdmbkfaaaDoor
