/-
  No cell of these rows narrows 'for every input' (looked for: loops, veiled, ifaces, maps, wideKeys, modest, calm, conditions, laid).
  DERIVED. THE GIVEN ROWS OF THIS SEAT. 5 by the template 'for every input the law returns true; each argument reads behind the call as it read before'; 0 by the template 'total and deterministic' (their statements: YtejpnfaaboicdaaTotals.lean).
  GIVEN WITH THE SEED: the statements are not yours to turn. If you find one false, say at which input.
  Laid BY PROGRAM, IN A SANDBOX (cutbox-rows.mjs): the forced cells as the released guide's own fill.sh prints them over the translation 5805a4f8cff701b1… (all of the seat's roots in one cut). By AI agents, Wed Nov 11 2026. No macro, syntax, notation, axiom, sorry.
-/
import Derived.Test.YtejpnfaaboicdaaChecked
import GoSem.Claim
import GoSem.ClaimJoined
import GoSem.ClaimMapViews
import Derived.JoinedTies
import Derived.KernelRfl
namespace Go.Proofs.Ytejpnfaaboicdaa
/- THE CELL 'sum', in the pinned program and in every row, IS THE sha256 OF THE DUMP (.gsa) THAT YtejpnfaaboicdaaProg.lean LOADS. Nothing in Lean hashes anything: it is a label: what it is worth is what the hold of that sum in a sandbox is worth. -/
noncomputable def Try.pinned : Pinned := { name := "ytejpnfaaboicdaa", sum := "5805a4f8cff701b147c6c3bed57241d918f3fceb467219917d558b1f8987c5d0", checked := Try.checked }
namespace Rows
def none {H : Type} : Left H := { results := [], args := [] }

/-- 'compositorlaw21.DemTells': WHATEVER THE INPUT: true; the input reads as it did. -/
def demTellsSpec : ChangeSpec := { name := "demTells", fn := fun _ => fun
  | [d1, d2, d3, d4, d5, d6] => { results := [.lit (.bool true)], args := [d1, d2, d3, d4, d5, d6] }
  | _ => none }
def demTellsRow : OpenClaim := { program := "ytejpnfaaboicdaa", sum := "5805a4f8cff701b147c6c3bed57241d918f3fceb467219917d558b1f8987c5d0", func := "compositor/compositorlaw21.DemTells", spec := "demTells", unfollowed := true, recurses := true, apart := false }
def DemTellsSaid : Prop := demTellsRow.holds Try.pinned (OpenSpec.ofChange demTellsSpec)

/-- ITS FALSE NEIGHBOUR: 'it returns false'. Refute it at one input. -/
def demTellsWrong : ChangeSpec := { name := "demTells", fn := fun _ => fun
  | [d1, d2, d3, d4, d5, d6] => { results := [.lit (.bool false)], args := [d1, d2, d3, d4, d5, d6] }
  | _ => none }
def DemTellsWrongFalsely : Prop := demTellsRow.holds Try.pinned (OpenSpec.ofChange demTellsWrong)

/-- 'compositorlaw21.DemPlain': WHATEVER THE INPUT: true; the input reads as it did. -/
def demPlainSpec : ChangeSpec := { name := "demPlain", fn := fun _ => fun
  | [d1, d2, d3, d4, d5, d6] => { results := [.lit (.bool true)], args := [d1, d2, d3, d4, d5, d6] }
  | _ => none }
def demPlainRow : OpenClaim := { program := "ytejpnfaaboicdaa", sum := "5805a4f8cff701b147c6c3bed57241d918f3fceb467219917d558b1f8987c5d0", func := "compositor/compositorlaw21.DemPlain", spec := "demPlain", unfollowed := true, recurses := true, apart := false }
def DemPlainSaid : Prop := demPlainRow.holds Try.pinned (OpenSpec.ofChange demPlainSpec)

/-- ITS FALSE NEIGHBOUR: 'it returns false'. Refute it at one input. -/
def demPlainWrong : ChangeSpec := { name := "demPlain", fn := fun _ => fun
  | [d1, d2, d3, d4, d5, d6] => { results := [.lit (.bool false)], args := [d1, d2, d3, d4, d5, d6] }
  | _ => none }
def DemPlainWrongFalsely : Prop := demPlainRow.holds Try.pinned (OpenSpec.ofChange demPlainWrong)

/-- 'compositorlaw21.DemRuns': WHATEVER THE INPUT: true; the input reads as it did. -/
def demRunsSpec : ChangeSpec := { name := "demRuns", fn := fun _ => fun
  | [d1, d2, d3, d4] => { results := [.lit (.bool true)], args := [d1, d2, d3, d4] }
  | _ => none }
def demRunsRow : OpenClaim := { program := "ytejpnfaaboicdaa", sum := "5805a4f8cff701b147c6c3bed57241d918f3fceb467219917d558b1f8987c5d0", func := "compositor/compositorlaw21.DemRuns", spec := "demRuns", unfollowed := true, recurses := true, apart := false }
def DemRunsSaid : Prop := demRunsRow.holds Try.pinned (OpenSpec.ofChange demRunsSpec)

/-- ITS FALSE NEIGHBOUR: 'it returns false'. Refute it at one input. -/
def demRunsWrong : ChangeSpec := { name := "demRuns", fn := fun _ => fun
  | [d1, d2, d3, d4] => { results := [.lit (.bool false)], args := [d1, d2, d3, d4] }
  | _ => none }
def DemRunsWrongFalsely : Prop := demRunsRow.holds Try.pinned (OpenSpec.ofChange demRunsWrong)

/-- 'compositorlaw21.DemApart': WHATEVER THE INPUT: true; the input reads as it did. -/
def demApartSpec : ChangeSpec := { name := "demApart", fn := fun _ => fun
  | [d1, d2, d3, d4] => { results := [.lit (.bool true)], args := [d1, d2, d3, d4] }
  | _ => none }
def demApartRow : OpenClaim := { program := "ytejpnfaaboicdaa", sum := "5805a4f8cff701b147c6c3bed57241d918f3fceb467219917d558b1f8987c5d0", func := "compositor/compositorlaw21.DemApart", spec := "demApart", unfollowed := true, recurses := true, apart := false }
def DemApartSaid : Prop := demApartRow.holds Try.pinned (OpenSpec.ofChange demApartSpec)

/-- ITS FALSE NEIGHBOUR: 'it returns false'. Refute it at one input. -/
def demApartWrong : ChangeSpec := { name := "demApart", fn := fun _ => fun
  | [d1, d2, d3, d4] => { results := [.lit (.bool false)], args := [d1, d2, d3, d4] }
  | _ => none }
def DemApartWrongFalsely : Prop := demApartRow.holds Try.pinned (OpenSpec.ofChange demApartWrong)

/-- 'compositorlaw21.DemBounds': WHATEVER THE INPUT: true; the input reads as it did. -/
def demBoundsSpec : ChangeSpec := { name := "demBounds", fn := fun _ => fun
  | [d1, d2, d3, d4, d5, d6] => { results := [.lit (.bool true)], args := [d1, d2, d3, d4, d5, d6] }
  | _ => none }
def demBoundsRow : OpenClaim := { program := "ytejpnfaaboicdaa", sum := "5805a4f8cff701b147c6c3bed57241d918f3fceb467219917d558b1f8987c5d0", func := "compositor/compositorlaw21.DemBounds", spec := "demBounds", unfollowed := true, recurses := true, apart := false }
def DemBoundsSaid : Prop := demBoundsRow.holds Try.pinned (OpenSpec.ofChange demBoundsSpec)

/-- ITS FALSE NEIGHBOUR: 'it returns false'. Refute it at one input. -/
def demBoundsWrong : ChangeSpec := { name := "demBounds", fn := fun _ => fun
  | [d1, d2, d3, d4, d5, d6] => { results := [.lit (.bool false)], args := [d1, d2, d3, d4, d5, d6] }
  | _ => none }
def DemBoundsWrongFalsely : Prop := demBoundsRow.holds Try.pinned (OpenSpec.ofChange demBoundsWrong)

/- THE SECOND FORM. 'bulk': how many values and letters a reading holds, each counted each time it is reached (what is shared counts as often as it is met; a slice's spare places count too). A statement '..UptoSaid' is the law's where the arguments, and the package variables that the reading takes, are together of bulk at most 1048576: NARROWER than '..Said'. Prove '..Said' where nothing that the law and all that it calls make is longer than what came in: it says more and counts as full. Else prove '..UptoSaid'. A law counts once. -/
mutual
def uptoBulk {H : Type} : DataW H → Nat
  | .lit (.string bytes) => bytes.length + 1
  | .lit _ => 1
  | .nil => 1
  | .ptr d => uptoBulk d + 1
  | .slice elems spare => uptoBulkAll elems + uptoBulkAll spare + 1
  | .agg parts => uptoBulkAll parts + 1
  | .iface _ d => uptoBulk d + 1
  | .map entries => uptoBulkEntries entries + 1
  | .held _ => 1
def uptoBulkAll {H : Type} : List (DataW H) → Nat
  | [] => 0
  | d :: r => uptoBulk d + uptoBulkAll r
def uptoBulkEntries {H : Type} : List (Lit × DataW H) → Nat
  | [] => 0
  | x :: r => uptoBulkEntry x + uptoBulkEntries r
def uptoBulkEntry {H : Type} : Lit × DataW H → Nat
  | (.string bytes, d) => bytes.length + uptoBulk d + 1
  | (_, d) => uptoBulk d + 1
 end
def uptoSmall : (H : Type) → List (DataW H) → Bool := fun _ ds => decide (uptoBulkAll ds ≤ 1048576)
def OpenSpec.upto (s : _root_.Go.ChangeSpec) : _root_.Go.OpenSpec := { _root_.Go.OpenSpec.ofChange s with cond := some uptoSmall }

/-- 'compositorlaw21.DemTells', WHERE WHAT IT READS IS OF BULK AT MOST 1048576: true; the input reads as it did. -/
def demTellsUptoRow : OpenClaim := { program := "ytejpnfaaboicdaa", sum := "5805a4f8cff701b147c6c3bed57241d918f3fceb467219917d558b1f8987c5d0", func := "compositor/compositorlaw21.DemTells", spec := "demTells", unfollowed := true, recurses := true, apart := false, narrowed := true }
def DemTellsUptoSaid : Prop := demTellsUptoRow.holds Try.pinned (OpenSpec.upto demTellsSpec)

/-- 'compositorlaw21.DemPlain', WHERE WHAT IT READS IS OF BULK AT MOST 1048576: true; the input reads as it did. -/
def demPlainUptoRow : OpenClaim := { program := "ytejpnfaaboicdaa", sum := "5805a4f8cff701b147c6c3bed57241d918f3fceb467219917d558b1f8987c5d0", func := "compositor/compositorlaw21.DemPlain", spec := "demPlain", unfollowed := true, recurses := true, apart := false, narrowed := true }
def DemPlainUptoSaid : Prop := demPlainUptoRow.holds Try.pinned (OpenSpec.upto demPlainSpec)

/-- 'compositorlaw21.DemRuns', WHERE WHAT IT READS IS OF BULK AT MOST 1048576: true; the input reads as it did. -/
def demRunsUptoRow : OpenClaim := { program := "ytejpnfaaboicdaa", sum := "5805a4f8cff701b147c6c3bed57241d918f3fceb467219917d558b1f8987c5d0", func := "compositor/compositorlaw21.DemRuns", spec := "demRuns", unfollowed := true, recurses := true, apart := false, narrowed := true }
def DemRunsUptoSaid : Prop := demRunsUptoRow.holds Try.pinned (OpenSpec.upto demRunsSpec)

/-- 'compositorlaw21.DemApart', WHERE WHAT IT READS IS OF BULK AT MOST 1048576: true; the input reads as it did. -/
def demApartUptoRow : OpenClaim := { program := "ytejpnfaaboicdaa", sum := "5805a4f8cff701b147c6c3bed57241d918f3fceb467219917d558b1f8987c5d0", func := "compositor/compositorlaw21.DemApart", spec := "demApart", unfollowed := true, recurses := true, apart := false, narrowed := true }
def DemApartUptoSaid : Prop := demApartUptoRow.holds Try.pinned (OpenSpec.upto demApartSpec)

/-- 'compositorlaw21.DemBounds', WHERE WHAT IT READS IS OF BULK AT MOST 1048576: true; the input reads as it did. -/
def demBoundsUptoRow : OpenClaim := { program := "ytejpnfaaboicdaa", sum := "5805a4f8cff701b147c6c3bed57241d918f3fceb467219917d558b1f8987c5d0", func := "compositor/compositorlaw21.DemBounds", spec := "demBounds", unfollowed := true, recurses := true, apart := false, narrowed := true }
def DemBoundsUptoSaid : Prop := demBoundsUptoRow.holds Try.pinned (OpenSpec.upto demBoundsSpec)

end Rows
end Go.Proofs.Ytejpnfaaboicdaa
