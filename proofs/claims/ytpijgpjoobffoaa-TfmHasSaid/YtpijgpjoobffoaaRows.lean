/-
  No cell of these rows narrows 'for every input' (looked for: loops, veiled, ifaces, maps, wideKeys, modest, calm, conditions, laid).
  DERIVED. THE GIVEN ROWS OF THIS SEAT. 6 by the template 'for every input the law returns true; each argument reads behind the call as it read before'; 0 by the template 'total and deterministic' (their statements: YtpijgpjoobffoaaTotals.lean).
  GIVEN WITH THE SEED: the statements are not yours to turn. If you find one false, say at which input.
  Laid BY PROGRAM, IN A SANDBOX (cutbox-rows.mjs): the forced cells as the released guide's own fill.sh prints them over the translation 40ce84887da7b713… (all of the seat's roots in one cut). By AI agents, Wed Nov 11 2026. No macro, syntax, notation, axiom, sorry.
-/
import Derived.Test.YtpijgpjoobffoaaChecked
import GoSem.Claim
import GoSem.ClaimJoined
import GoSem.ClaimMapViews
import Derived.JoinedTies
import Derived.KernelRfl
namespace Go.Proofs.Ytpijgpjoobffoaa
/- THE CELL 'sum', in the pinned program and in every row, IS THE sha256 OF THE DUMP (.gsa) THAT YtpijgpjoobffoaaProg.lean LOADS. Nothing in Lean hashes anything: it is a label: what it is worth is what the hold of that sum in a sandbox is worth. -/
noncomputable def Try.pinned : Pinned := { name := "ytpijgpjoobffoaa", sum := "40ce84887da7b713fc80e16e320d28e9a545c162d68f2d3481807aeca8246c18", checked := Try.checked }
namespace Rows
def none {H : Type} : Left H := { results := [], args := [] }

/-- 'compositorlaw07.TfmWrites': WHATEVER THE INPUT: true; the input reads as it did. -/
def tfmWritesSpec : ChangeSpec := { name := "tfmWrites", fn := fun _ => fun
  | [d1, d2] => { results := [.lit (.bool true)], args := [d1, d2] }
  | _ => none }
def tfmWritesRow : OpenClaim := { program := "ytpijgpjoobffoaa", sum := "40ce84887da7b713fc80e16e320d28e9a545c162d68f2d3481807aeca8246c18", func := "compositor/compositorlaw07.TfmWrites", spec := "tfmWrites", unfollowed := true, recurses := true, apart := false }
def TfmWritesSaid : Prop := tfmWritesRow.holds Try.pinned (OpenSpec.ofChange tfmWritesSpec)

/-- ITS FALSE NEIGHBOUR: 'it returns false'. Refute it at one input. -/
def tfmWritesWrong : ChangeSpec := { name := "tfmWrites", fn := fun _ => fun
  | [d1, d2] => { results := [.lit (.bool false)], args := [d1, d2] }
  | _ => none }
def TfmWritesWrongFalsely : Prop := tfmWritesRow.holds Try.pinned (OpenSpec.ofChange tfmWritesWrong)

/-- 'compositorlaw07.TfmReads': WHATEVER THE INPUT: true; the input reads as it did. -/
def tfmReadsSpec : ChangeSpec := { name := "tfmReads", fn := fun _ => fun
  | [d] => { results := [.lit (.bool true)], args := [d] }
  | _ => none }
def tfmReadsRow : OpenClaim := { program := "ytpijgpjoobffoaa", sum := "40ce84887da7b713fc80e16e320d28e9a545c162d68f2d3481807aeca8246c18", func := "compositor/compositorlaw07.TfmReads", spec := "tfmReads", unfollowed := true, recurses := true, apart := false }
def TfmReadsSaid : Prop := tfmReadsRow.holds Try.pinned (OpenSpec.ofChange tfmReadsSpec)

/-- ITS FALSE NEIGHBOUR: 'it returns false'. Refute it at one input. -/
def tfmReadsWrong : ChangeSpec := { name := "tfmReads", fn := fun _ => fun
  | [d] => { results := [.lit (.bool false)], args := [d] }
  | _ => none }
def TfmReadsWrongFalsely : Prop := tfmReadsRow.holds Try.pinned (OpenSpec.ofChange tfmReadsWrong)

/-- 'compositorlaw07.TfmBack': WHATEVER THE INPUT: true; the input reads as it did. -/
def tfmBackSpec : ChangeSpec := { name := "tfmBack", fn := fun _ => fun
  | [d1, d2] => { results := [.lit (.bool true)], args := [d1, d2] }
  | _ => none }
def tfmBackRow : OpenClaim := { program := "ytpijgpjoobffoaa", sum := "40ce84887da7b713fc80e16e320d28e9a545c162d68f2d3481807aeca8246c18", func := "compositor/compositorlaw07.TfmBack", spec := "tfmBack", unfollowed := true, recurses := true, apart := false }
def TfmBackSaid : Prop := tfmBackRow.holds Try.pinned (OpenSpec.ofChange tfmBackSpec)

/-- ITS FALSE NEIGHBOUR: 'it returns false'. Refute it at one input. -/
def tfmBackWrong : ChangeSpec := { name := "tfmBack", fn := fun _ => fun
  | [d1, d2] => { results := [.lit (.bool false)], args := [d1, d2] }
  | _ => none }
def TfmBackWrongFalsely : Prop := tfmBackRow.holds Try.pinned (OpenSpec.ofChange tfmBackWrong)

/-- 'compositorlaw07.TfmCuts': WHATEVER THE INPUT: true; the input reads as it did. -/
def tfmCutsSpec : ChangeSpec := { name := "tfmCuts", fn := fun _ => fun
  | [d1, d2, d3] => { results := [.lit (.bool true)], args := [d1, d2, d3] }
  | _ => none }
def tfmCutsRow : OpenClaim := { program := "ytpijgpjoobffoaa", sum := "40ce84887da7b713fc80e16e320d28e9a545c162d68f2d3481807aeca8246c18", func := "compositor/compositorlaw07.TfmCuts", spec := "tfmCuts", unfollowed := true, recurses := true, apart := false }
def TfmCutsSaid : Prop := tfmCutsRow.holds Try.pinned (OpenSpec.ofChange tfmCutsSpec)

/-- ITS FALSE NEIGHBOUR: 'it returns false'. Refute it at one input. -/
def tfmCutsWrong : ChangeSpec := { name := "tfmCuts", fn := fun _ => fun
  | [d1, d2, d3] => { results := [.lit (.bool false)], args := [d1, d2, d3] }
  | _ => none }
def TfmCutsWrongFalsely : Prop := tfmCutsRow.holds Try.pinned (OpenSpec.ofChange tfmCutsWrong)

/-- 'compositorlaw07.TfmPlain': WHATEVER THE INPUT: true; the input reads as it did. -/
def tfmPlainSpec : ChangeSpec := { name := "tfmPlain", fn := fun _ => fun
  | [d1, d2] => { results := [.lit (.bool true)], args := [d1, d2] }
  | _ => none }
def tfmPlainRow : OpenClaim := { program := "ytpijgpjoobffoaa", sum := "40ce84887da7b713fc80e16e320d28e9a545c162d68f2d3481807aeca8246c18", func := "compositor/compositorlaw07.TfmPlain", spec := "tfmPlain", unfollowed := true, recurses := true, apart := false }
def TfmPlainSaid : Prop := tfmPlainRow.holds Try.pinned (OpenSpec.ofChange tfmPlainSpec)

/-- ITS FALSE NEIGHBOUR: 'it returns false'. Refute it at one input. -/
def tfmPlainWrong : ChangeSpec := { name := "tfmPlain", fn := fun _ => fun
  | [d1, d2] => { results := [.lit (.bool false)], args := [d1, d2] }
  | _ => none }
def TfmPlainWrongFalsely : Prop := tfmPlainRow.holds Try.pinned (OpenSpec.ofChange tfmPlainWrong)

/-- 'compositorlaw07.TfmHas': WHATEVER THE INPUT: true; the input reads as it did. -/
def tfmHasSpec : ChangeSpec := { name := "tfmHas", fn := fun _ => fun
  | [d1, d2] => { results := [.lit (.bool true)], args := [d1, d2] }
  | _ => none }
def tfmHasRow : OpenClaim := { program := "ytpijgpjoobffoaa", sum := "40ce84887da7b713fc80e16e320d28e9a545c162d68f2d3481807aeca8246c18", func := "compositor/compositorlaw07.TfmHas", spec := "tfmHas", unfollowed := true, recurses := true, apart := false }
def TfmHasSaid : Prop := tfmHasRow.holds Try.pinned (OpenSpec.ofChange tfmHasSpec)

/-- ITS FALSE NEIGHBOUR: 'it returns false'. Refute it at one input. -/
def tfmHasWrong : ChangeSpec := { name := "tfmHas", fn := fun _ => fun
  | [d1, d2] => { results := [.lit (.bool false)], args := [d1, d2] }
  | _ => none }
def TfmHasWrongFalsely : Prop := tfmHasRow.holds Try.pinned (OpenSpec.ofChange tfmHasWrong)

/- THE SECOND FORM. 'bulk': how many values and letters a reading holds, each counted each time it is reached (what is shared counts as often as it is met; a slice's spare places count too). A statement '..UptoSaid' is the law's where the arguments, and the package variables that the reading takes, are together of bulk at most 1048576: NARROWER than '..Said'. Prove '..Said' where nothing that the law and all that it calls make is longer than what came in: it says more and counts as full. Else prove '..UptoSaid'. A law counts once. -/
mutual
def uptoBulk {H : Type} : DataW H → Nat
  | .lit (.string bytes) => bytes.length + 1
  | .lit _ => 1
  | .nil => 1
  | .ptr d => uptoBulk d + 1
  | .slice elems spare => uptoBulkAll elems + uptoBulkAll spare + 1
  | .agg parts => uptoBulkAll parts + 1
  | .iface _ d => uptoBulk d + 1
  | .map entries => uptoBulkEntries entries + 1
  | .held _ => 1
def uptoBulkAll {H : Type} : List (DataW H) → Nat
  | [] => 0
  | d :: r => uptoBulk d + uptoBulkAll r
def uptoBulkEntries {H : Type} : List (Lit × DataW H) → Nat
  | [] => 0
  | x :: r => uptoBulkEntry x + uptoBulkEntries r
def uptoBulkEntry {H : Type} : Lit × DataW H → Nat
  | (.string bytes, d) => bytes.length + uptoBulk d + 1
  | (_, d) => uptoBulk d + 1
 end
def uptoSmall : (H : Type) → List (DataW H) → Bool := fun _ ds => decide (uptoBulkAll ds ≤ 1048576)
def OpenSpec.upto (s : _root_.Go.ChangeSpec) : _root_.Go.OpenSpec := { _root_.Go.OpenSpec.ofChange s with cond := some uptoSmall }

/-- 'compositorlaw07.TfmWrites', WHERE WHAT IT READS IS OF BULK AT MOST 1048576: true; the input reads as it did. -/
def tfmWritesUptoRow : OpenClaim := { program := "ytpijgpjoobffoaa", sum := "40ce84887da7b713fc80e16e320d28e9a545c162d68f2d3481807aeca8246c18", func := "compositor/compositorlaw07.TfmWrites", spec := "tfmWrites", unfollowed := true, recurses := true, apart := false, narrowed := true }
def TfmWritesUptoSaid : Prop := tfmWritesUptoRow.holds Try.pinned (OpenSpec.upto tfmWritesSpec)

/-- 'compositorlaw07.TfmReads', WHERE WHAT IT READS IS OF BULK AT MOST 1048576: true; the input reads as it did. -/
def tfmReadsUptoRow : OpenClaim := { program := "ytpijgpjoobffoaa", sum := "40ce84887da7b713fc80e16e320d28e9a545c162d68f2d3481807aeca8246c18", func := "compositor/compositorlaw07.TfmReads", spec := "tfmReads", unfollowed := true, recurses := true, apart := false, narrowed := true }
def TfmReadsUptoSaid : Prop := tfmReadsUptoRow.holds Try.pinned (OpenSpec.upto tfmReadsSpec)

/-- 'compositorlaw07.TfmBack', WHERE WHAT IT READS IS OF BULK AT MOST 1048576: true; the input reads as it did. -/
def tfmBackUptoRow : OpenClaim := { program := "ytpijgpjoobffoaa", sum := "40ce84887da7b713fc80e16e320d28e9a545c162d68f2d3481807aeca8246c18", func := "compositor/compositorlaw07.TfmBack", spec := "tfmBack", unfollowed := true, recurses := true, apart := false, narrowed := true }
def TfmBackUptoSaid : Prop := tfmBackUptoRow.holds Try.pinned (OpenSpec.upto tfmBackSpec)

/-- 'compositorlaw07.TfmCuts', WHERE WHAT IT READS IS OF BULK AT MOST 1048576: true; the input reads as it did. -/
def tfmCutsUptoRow : OpenClaim := { program := "ytpijgpjoobffoaa", sum := "40ce84887da7b713fc80e16e320d28e9a545c162d68f2d3481807aeca8246c18", func := "compositor/compositorlaw07.TfmCuts", spec := "tfmCuts", unfollowed := true, recurses := true, apart := false, narrowed := true }
def TfmCutsUptoSaid : Prop := tfmCutsUptoRow.holds Try.pinned (OpenSpec.upto tfmCutsSpec)

/-- 'compositorlaw07.TfmPlain', WHERE WHAT IT READS IS OF BULK AT MOST 1048576: true; the input reads as it did. -/
def tfmPlainUptoRow : OpenClaim := { program := "ytpijgpjoobffoaa", sum := "40ce84887da7b713fc80e16e320d28e9a545c162d68f2d3481807aeca8246c18", func := "compositor/compositorlaw07.TfmPlain", spec := "tfmPlain", unfollowed := true, recurses := true, apart := false, narrowed := true }
def TfmPlainUptoSaid : Prop := tfmPlainUptoRow.holds Try.pinned (OpenSpec.upto tfmPlainSpec)

/-- 'compositorlaw07.TfmHas', WHERE WHAT IT READS IS OF BULK AT MOST 1048576: true; the input reads as it did. -/
def tfmHasUptoRow : OpenClaim := { program := "ytpijgpjoobffoaa", sum := "40ce84887da7b713fc80e16e320d28e9a545c162d68f2d3481807aeca8246c18", func := "compositor/compositorlaw07.TfmHas", spec := "tfmHas", unfollowed := true, recurses := true, apart := false, narrowed := true }
def TfmHasUptoSaid : Prop := tfmHasUptoRow.holds Try.pinned (OpenSpec.upto tfmHasSpec)

end Rows
end Go.Proofs.Ytpijgpjoobffoaa
