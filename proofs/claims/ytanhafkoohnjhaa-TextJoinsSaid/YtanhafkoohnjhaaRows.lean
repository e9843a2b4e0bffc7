/-
  No cell of these rows narrows 'for every input' (looked for: loops, veiled, ifaces, maps, wideKeys, modest, calm, conditions, laid).
  DERIVED. THE GIVEN ROWS OF THIS SEAT. 7 by the template 'for every input the law returns true; each argument reads behind the call as it read before'; 0 by the template 'total and deterministic' (their statements: YtanhafkoohnjhaaTotals.lean).
  GIVEN WITH THE SEED: the statements are not yours to turn. If you find one false, say at which input.
  Laid BY PROGRAM, IN A SANDBOX (cutbox-rows.mjs): the forced cells as the released guide's own fill.sh prints them over the translation 72a8c0a7ccf262e5… (all of the seat's roots in one cut). By AI agents, Wed Nov 11 2026. No macro, syntax, notation, axiom, sorry.
-/
import Derived.Test.YtanhafkoohnjhaaChecked
import GoSem.Claim
import GoSem.ClaimJoined
import GoSem.ClaimMapViews
import Derived.JoinedTies
import Derived.KernelRfl
namespace Go.Proofs.Ytanhafkoohnjhaa
/- THE CELL 'sum', in the pinned program and in every row, IS THE sha256 OF THE DUMP (.gsa) THAT YtanhafkoohnjhaaProg.lean LOADS. Nothing in Lean hashes anything: it is a label: what it is worth is what the hold of that sum in a sandbox is worth. -/
noncomputable def Try.pinned : Pinned := { name := "ytanhafkoohnjhaa", sum := "72a8c0a7ccf262e5515c11ad9b64faf39a2e973ecbfcdeada1c8aabdbf21f21b", checked := Try.checked }
namespace Rows
def none {H : Type} : Left H := { results := [], args := [] }

/-- 'compositorlaw13.TextReads': WHATEVER THE INPUT: true; the input reads as it did. -/
def textReadsSpec : ChangeSpec := { name := "textReads", fn := fun _ => fun
  | [d] => { results := [.lit (.bool true)], args := [d] }
  | _ => none }
def textReadsRow : OpenClaim := { program := "ytanhafkoohnjhaa", sum := "72a8c0a7ccf262e5515c11ad9b64faf39a2e973ecbfcdeada1c8aabdbf21f21b", func := "compositor/compositorlaw13.TextReads", spec := "textReads", unfollowed := true, recurses := true, apart := false }
def TextReadsSaid : Prop := textReadsRow.holds Try.pinned (OpenSpec.ofChange textReadsSpec)

/-- ITS FALSE NEIGHBOUR: 'it returns false'. Refute it at one input. -/
def textReadsWrong : ChangeSpec := { name := "textReads", fn := fun _ => fun
  | [d] => { results := [.lit (.bool false)], args := [d] }
  | _ => none }
def TextReadsWrongFalsely : Prop := textReadsRow.holds Try.pinned (OpenSpec.ofChange textReadsWrong)

/-- 'compositorlaw13.TextWrites': WHATEVER THE INPUT: true; the input reads as it did. -/
def textWritesSpec : ChangeSpec := { name := "textWrites", fn := fun _ => fun
  | [d] => { results := [.lit (.bool true)], args := [d] }
  | _ => none }
def textWritesRow : OpenClaim := { program := "ytanhafkoohnjhaa", sum := "72a8c0a7ccf262e5515c11ad9b64faf39a2e973ecbfcdeada1c8aabdbf21f21b", func := "compositor/compositorlaw13.TextWrites", spec := "textWrites", unfollowed := true, recurses := true, apart := false }
def TextWritesSaid : Prop := textWritesRow.holds Try.pinned (OpenSpec.ofChange textWritesSpec)

/-- ITS FALSE NEIGHBOUR: 'it returns false'. Refute it at one input. -/
def textWritesWrong : ChangeSpec := { name := "textWrites", fn := fun _ => fun
  | [d] => { results := [.lit (.bool false)], args := [d] }
  | _ => none }
def TextWritesWrongFalsely : Prop := textWritesRow.holds Try.pinned (OpenSpec.ofChange textWritesWrong)

/-- 'compositorlaw13.TextBack': WHATEVER THE INPUT: true; the input reads as it did. -/
def textBackSpec : ChangeSpec := { name := "textBack", fn := fun _ => fun
  | [d1, d2] => { results := [.lit (.bool true)], args := [d1, d2] }
  | _ => none }
def textBackRow : OpenClaim := { program := "ytanhafkoohnjhaa", sum := "72a8c0a7ccf262e5515c11ad9b64faf39a2e973ecbfcdeada1c8aabdbf21f21b", func := "compositor/compositorlaw13.TextBack", spec := "textBack", unfollowed := true, recurses := true, apart := false }
def TextBackSaid : Prop := textBackRow.holds Try.pinned (OpenSpec.ofChange textBackSpec)

/-- ITS FALSE NEIGHBOUR: 'it returns false'. Refute it at one input. -/
def textBackWrong : ChangeSpec := { name := "textBack", fn := fun _ => fun
  | [d1, d2] => { results := [.lit (.bool false)], args := [d1, d2] }
  | _ => none }
def TextBackWrongFalsely : Prop := textBackRow.holds Try.pinned (OpenSpec.ofChange textBackWrong)

/-- 'compositorlaw13.TextGaps': WHATEVER THE INPUT: true; the input reads as it did. -/
def textGapsSpec : ChangeSpec := { name := "textGaps", fn := fun _ => fun
  | [d1, d2] => { results := [.lit (.bool true)], args := [d1, d2] }
  | _ => none }
def textGapsRow : OpenClaim := { program := "ytanhafkoohnjhaa", sum := "72a8c0a7ccf262e5515c11ad9b64faf39a2e973ecbfcdeada1c8aabdbf21f21b", func := "compositor/compositorlaw13.TextGaps", spec := "textGaps", unfollowed := true, recurses := true, apart := false }
def TextGapsSaid : Prop := textGapsRow.holds Try.pinned (OpenSpec.ofChange textGapsSpec)

/-- ITS FALSE NEIGHBOUR: 'it returns false'. Refute it at one input. -/
def textGapsWrong : ChangeSpec := { name := "textGaps", fn := fun _ => fun
  | [d1, d2] => { results := [.lit (.bool false)], args := [d1, d2] }
  | _ => none }
def TextGapsWrongFalsely : Prop := textGapsRow.holds Try.pinned (OpenSpec.ofChange textGapsWrong)

/-- 'compositorlaw13.TextSoft': WHATEVER THE INPUT: true; the input reads as it did. -/
def textSoftSpec : ChangeSpec := { name := "textSoft", fn := fun _ => fun
  | [d] => { results := [.lit (.bool true)], args := [d] }
  | _ => none }
def textSoftRow : OpenClaim := { program := "ytanhafkoohnjhaa", sum := "72a8c0a7ccf262e5515c11ad9b64faf39a2e973ecbfcdeada1c8aabdbf21f21b", func := "compositor/compositorlaw13.TextSoft", spec := "textSoft", unfollowed := true, recurses := true, apart := false }
def TextSoftSaid : Prop := textSoftRow.holds Try.pinned (OpenSpec.ofChange textSoftSpec)

/-- ITS FALSE NEIGHBOUR: 'it returns false'. Refute it at one input. -/
def textSoftWrong : ChangeSpec := { name := "textSoft", fn := fun _ => fun
  | [d] => { results := [.lit (.bool false)], args := [d] }
  | _ => none }
def TextSoftWrongFalsely : Prop := textSoftRow.holds Try.pinned (OpenSpec.ofChange textSoftWrong)

/-- 'compositorlaw13.TextJoins': WHATEVER THE INPUT: true; the input reads as it did. -/
def textJoinsSpec : ChangeSpec := { name := "textJoins", fn := fun _ => fun
  | [d1, d2, d3] => { results := [.lit (.bool true)], args := [d1, d2, d3] }
  | _ => none }
def textJoinsRow : OpenClaim := { program := "ytanhafkoohnjhaa", sum := "72a8c0a7ccf262e5515c11ad9b64faf39a2e973ecbfcdeada1c8aabdbf21f21b", func := "compositor/compositorlaw13.TextJoins", spec := "textJoins", unfollowed := true, recurses := true, apart := false }
def TextJoinsSaid : Prop := textJoinsRow.holds Try.pinned (OpenSpec.ofChange textJoinsSpec)

/-- ITS FALSE NEIGHBOUR: 'it returns false'. Refute it at one input. -/
def textJoinsWrong : ChangeSpec := { name := "textJoins", fn := fun _ => fun
  | [d1, d2, d3] => { results := [.lit (.bool false)], args := [d1, d2, d3] }
  | _ => none }
def TextJoinsWrongFalsely : Prop := textJoinsRow.holds Try.pinned (OpenSpec.ofChange textJoinsWrong)

/-- 'compositorlaw13.TextCounts': WHATEVER THE INPUT: true; the input reads as it did. -/
def textCountsSpec : ChangeSpec := { name := "textCounts", fn := fun _ => fun
  | [d] => { results := [.lit (.bool true)], args := [d] }
  | _ => none }
def textCountsRow : OpenClaim := { program := "ytanhafkoohnjhaa", sum := "72a8c0a7ccf262e5515c11ad9b64faf39a2e973ecbfcdeada1c8aabdbf21f21b", func := "compositor/compositorlaw13.TextCounts", spec := "textCounts", unfollowed := true, recurses := true, apart := false }
def TextCountsSaid : Prop := textCountsRow.holds Try.pinned (OpenSpec.ofChange textCountsSpec)

/-- ITS FALSE NEIGHBOUR: 'it returns false'. Refute it at one input. -/
def textCountsWrong : ChangeSpec := { name := "textCounts", fn := fun _ => fun
  | [d] => { results := [.lit (.bool false)], args := [d] }
  | _ => none }
def TextCountsWrongFalsely : Prop := textCountsRow.holds Try.pinned (OpenSpec.ofChange textCountsWrong)

/- THE SECOND FORM. 'bulk': how many values and letters a reading holds, each counted each time it is reached (what is shared counts as often as it is met; a slice's spare places count too). A statement '..UptoSaid' is the law's where the arguments, and the package variables that the reading takes, are together of bulk at most 1048576: NARROWER than '..Said'. Prove '..Said' where nothing that the law and all that it calls make is longer than what came in: it says more and counts as full. Else prove '..UptoSaid'. A law counts once. -/
mutual
def uptoBulk {H : Type} : DataW H → Nat
  | .lit (.string bytes) => bytes.length + 1
  | .lit _ => 1
  | .nil => 1
  | .ptr d => uptoBulk d + 1
  | .slice elems spare => uptoBulkAll elems + uptoBulkAll spare + 1
  | .agg parts => uptoBulkAll parts + 1
  | .iface _ d => uptoBulk d + 1
  | .map entries => uptoBulkEntries entries + 1
  | .held _ => 1
def uptoBulkAll {H : Type} : List (DataW H) → Nat
  | [] => 0
  | d :: r => uptoBulk d + uptoBulkAll r
def uptoBulkEntries {H : Type} : List (Lit × DataW H) → Nat
  | [] => 0
  | x :: r => uptoBulkEntry x + uptoBulkEntries r
def uptoBulkEntry {H : Type} : Lit × DataW H → Nat
  | (.string bytes, d) => bytes.length + uptoBulk d + 1
  | (_, d) => uptoBulk d + 1
 end
def uptoSmall : (H : Type) → List (DataW H) → Bool := fun _ ds => decide (uptoBulkAll ds ≤ 1048576)
def OpenSpec.upto (s : _root_.Go.ChangeSpec) : _root_.Go.OpenSpec := { _root_.Go.OpenSpec.ofChange s with cond := some uptoSmall }

/-- 'compositorlaw13.TextReads', WHERE WHAT IT READS IS OF BULK AT MOST 1048576: true; the input reads as it did. -/
def textReadsUptoRow : OpenClaim := { program := "ytanhafkoohnjhaa", sum := "72a8c0a7ccf262e5515c11ad9b64faf39a2e973ecbfcdeada1c8aabdbf21f21b", func := "compositor/compositorlaw13.TextReads", spec := "textReads", unfollowed := true, recurses := true, apart := false, narrowed := true }
def TextReadsUptoSaid : Prop := textReadsUptoRow.holds Try.pinned (OpenSpec.upto textReadsSpec)

/-- 'compositorlaw13.TextWrites', WHERE WHAT IT READS IS OF BULK AT MOST 1048576: true; the input reads as it did. -/
def textWritesUptoRow : OpenClaim := { program := "ytanhafkoohnjhaa", sum := "72a8c0a7ccf262e5515c11ad9b64faf39a2e973ecbfcdeada1c8aabdbf21f21b", func := "compositor/compositorlaw13.TextWrites", spec := "textWrites", unfollowed := true, recurses := true, apart := false, narrowed := true }
def TextWritesUptoSaid : Prop := textWritesUptoRow.holds Try.pinned (OpenSpec.upto textWritesSpec)

/-- 'compositorlaw13.TextBack', WHERE WHAT IT READS IS OF BULK AT MOST 1048576: true; the input reads as it did. -/
def textBackUptoRow : OpenClaim := { program := "ytanhafkoohnjhaa", sum := "72a8c0a7ccf262e5515c11ad9b64faf39a2e973ecbfcdeada1c8aabdbf21f21b", func := "compositor/compositorlaw13.TextBack", spec := "textBack", unfollowed := true, recurses := true, apart := false, narrowed := true }
def TextBackUptoSaid : Prop := textBackUptoRow.holds Try.pinned (OpenSpec.upto textBackSpec)

/-- 'compositorlaw13.TextGaps', WHERE WHAT IT READS IS OF BULK AT MOST 1048576: true; the input reads as it did. -/
def textGapsUptoRow : OpenClaim := { program := "ytanhafkoohnjhaa", sum := "72a8c0a7ccf262e5515c11ad9b64faf39a2e973ecbfcdeada1c8aabdbf21f21b", func := "compositor/compositorlaw13.TextGaps", spec := "textGaps", unfollowed := true, recurses := true, apart := false, narrowed := true }
def TextGapsUptoSaid : Prop := textGapsUptoRow.holds Try.pinned (OpenSpec.upto textGapsSpec)

/-- 'compositorlaw13.TextSoft', WHERE WHAT IT READS IS OF BULK AT MOST 1048576: true; the input reads as it did. -/
def textSoftUptoRow : OpenClaim := { program := "ytanhafkoohnjhaa", sum := "72a8c0a7ccf262e5515c11ad9b64faf39a2e973ecbfcdeada1c8aabdbf21f21b", func := "compositor/compositorlaw13.TextSoft", spec := "textSoft", unfollowed := true, recurses := true, apart := false, narrowed := true }
def TextSoftUptoSaid : Prop := textSoftUptoRow.holds Try.pinned (OpenSpec.upto textSoftSpec)

/-- 'compositorlaw13.TextJoins', WHERE WHAT IT READS IS OF BULK AT MOST 1048576: true; the input reads as it did. -/
def textJoinsUptoRow : OpenClaim := { program := "ytanhafkoohnjhaa", sum := "72a8c0a7ccf262e5515c11ad9b64faf39a2e973ecbfcdeada1c8aabdbf21f21b", func := "compositor/compositorlaw13.TextJoins", spec := "textJoins", unfollowed := true, recurses := true, apart := false, narrowed := true }
def TextJoinsUptoSaid : Prop := textJoinsUptoRow.holds Try.pinned (OpenSpec.upto textJoinsSpec)

/-- 'compositorlaw13.TextCounts', WHERE WHAT IT READS IS OF BULK AT MOST 1048576: true; the input reads as it did. -/
def textCountsUptoRow : OpenClaim := { program := "ytanhafkoohnjhaa", sum := "72a8c0a7ccf262e5515c11ad9b64faf39a2e973ecbfcdeada1c8aabdbf21f21b", func := "compositor/compositorlaw13.TextCounts", spec := "textCounts", unfollowed := true, recurses := true, apart := false, narrowed := true }
def TextCountsUptoSaid : Prop := textCountsUptoRow.holds Try.pinned (OpenSpec.upto textCountsSpec)

end Rows
end Go.Proofs.Ytanhafkoohnjhaa
