/-
  No cell of these rows narrows 'for every input' (looked for: loops, veiled, ifaces, maps, wideKeys, modest, calm, conditions, laid).
  DERIVED. THE GIVEN ROWS OF THIS SEAT. 3 by the template 'for every input the law returns true; each argument reads behind the call as it read before'; 0 by the template 'total and deterministic' (their statements: YtepllkdlnajbjaaTotals.lean).
  GIVEN WITH THE SEED: the statements are not yours to turn. If you find one false, say at which input.
  Laid BY PROGRAM, IN A SANDBOX (cutbox-rows.mjs): the forced cells as the released guide's own fill.sh prints them over the translation 659f8369d7600403… (all of the seat's roots in one cut). By AI agents, Wed Nov 11 2026. No macro, syntax, notation, axiom, sorry.
-/
import Derived.Test.YtepllkdlnajbjaaChecked
import GoSem.Claim
import GoSem.ClaimJoined
import GoSem.ClaimMapViews
import Derived.JoinedTies
import Derived.KernelRfl
namespace Go.Proofs.Ytepllkdlnajbjaa
/- THE CELL 'sum', in the pinned program and in every row, IS THE sha256 OF THE DUMP (.gsa) THAT YtepllkdlnajbjaaProg.lean LOADS. Nothing in Lean hashes anything: it is a label: what it is worth is what the hold of that sum in a sandbox is worth. -/
noncomputable def Try.pinned : Pinned := { name := "ytepllkdlnajbjaa", sum := "659f8369d76004034a76eb057938156a0a18b493a85724cab3d92bdb388a2e27", checked := Try.checked }
namespace Rows
def none {H : Type} : Left H := { results := [], args := [] }

/-- 'compositorlaw17.PieceTells': WHATEVER THE INPUT: true; the input reads as it did. -/
def pieceTellsSpec : ChangeSpec := { name := "pieceTells", fn := fun _ => fun
  | [d1, d2, d3] => { results := [.lit (.bool true)], args := [d1, d2, d3] }
  | _ => none }
def pieceTellsRow : OpenClaim := { program := "ytepllkdlnajbjaa", sum := "659f8369d76004034a76eb057938156a0a18b493a85724cab3d92bdb388a2e27", func := "compositor/compositorlaw17.PieceTells", spec := "pieceTells", unfollowed := true, recurses := true, apart := false }
def PieceTellsSaid : Prop := pieceTellsRow.holds Try.pinned (OpenSpec.ofChange pieceTellsSpec)

/-- ITS FALSE NEIGHBOUR: 'it returns false'. Refute it at one input. -/
def pieceTellsWrong : ChangeSpec := { name := "pieceTells", fn := fun _ => fun
  | [d1, d2, d3] => { results := [.lit (.bool false)], args := [d1, d2, d3] }
  | _ => none }
def PieceTellsWrongFalsely : Prop := pieceTellsRow.holds Try.pinned (OpenSpec.ofChange pieceTellsWrong)

/-- 'compositorlaw17.PieceWholes': WHATEVER THE INPUT: true; the input reads as it did. -/
def pieceWholesSpec : ChangeSpec := { name := "pieceWholes", fn := fun _ => fun
  | [d1, d2] => { results := [.lit (.bool true)], args := [d1, d2] }
  | _ => none }
def pieceWholesRow : OpenClaim := { program := "ytepllkdlnajbjaa", sum := "659f8369d76004034a76eb057938156a0a18b493a85724cab3d92bdb388a2e27", func := "compositor/compositorlaw17.PieceWholes", spec := "pieceWholes", unfollowed := true, recurses := true, apart := false }
def PieceWholesSaid : Prop := pieceWholesRow.holds Try.pinned (OpenSpec.ofChange pieceWholesSpec)

/-- ITS FALSE NEIGHBOUR: 'it returns false'. Refute it at one input. -/
def pieceWholesWrong : ChangeSpec := { name := "pieceWholes", fn := fun _ => fun
  | [d1, d2] => { results := [.lit (.bool false)], args := [d1, d2] }
  | _ => none }
def PieceWholesWrongFalsely : Prop := pieceWholesRow.holds Try.pinned (OpenSpec.ofChange pieceWholesWrong)

/-- 'compositorlaw17.PieceJoins': WHATEVER THE INPUT: true; the input reads as it did. -/
def pieceJoinsSpec : ChangeSpec := { name := "pieceJoins", fn := fun _ => fun
  | [d1, d2, d3, d4] => { results := [.lit (.bool true)], args := [d1, d2, d3, d4] }
  | _ => none }
def pieceJoinsRow : OpenClaim := { program := "ytepllkdlnajbjaa", sum := "659f8369d76004034a76eb057938156a0a18b493a85724cab3d92bdb388a2e27", func := "compositor/compositorlaw17.PieceJoins", spec := "pieceJoins", unfollowed := true, recurses := true, apart := false }
def PieceJoinsSaid : Prop := pieceJoinsRow.holds Try.pinned (OpenSpec.ofChange pieceJoinsSpec)

/-- ITS FALSE NEIGHBOUR: 'it returns false'. Refute it at one input. -/
def pieceJoinsWrong : ChangeSpec := { name := "pieceJoins", fn := fun _ => fun
  | [d1, d2, d3, d4] => { results := [.lit (.bool false)], args := [d1, d2, d3, d4] }
  | _ => none }
def PieceJoinsWrongFalsely : Prop := pieceJoinsRow.holds Try.pinned (OpenSpec.ofChange pieceJoinsWrong)

/- THE SECOND FORM. 'bulk': how many values and letters a reading holds, each counted each time it is reached (what is shared counts as often as it is met; a slice's spare places count too). A statement '..UptoSaid' is the law's where the arguments, and the package variables that the reading takes, are together of bulk at most 1048576: NARROWER than '..Said'. Prove '..Said' where nothing that the law and all that it calls make is longer than what came in: it says more and counts as full. Else prove '..UptoSaid'. A law counts once. -/
mutual
def uptoBulk {H : Type} : DataW H → Nat
  | .lit (.string bytes) => bytes.length + 1
  | .lit _ => 1
  | .nil => 1
  | .ptr d => uptoBulk d + 1
  | .slice elems spare => uptoBulkAll elems + uptoBulkAll spare + 1
  | .agg parts => uptoBulkAll parts + 1
  | .iface _ d => uptoBulk d + 1
  | .map entries => uptoBulkEntries entries + 1
  | .held _ => 1
def uptoBulkAll {H : Type} : List (DataW H) → Nat
  | [] => 0
  | d :: r => uptoBulk d + uptoBulkAll r
def uptoBulkEntries {H : Type} : List (Lit × DataW H) → Nat
  | [] => 0
  | x :: r => uptoBulkEntry x + uptoBulkEntries r
def uptoBulkEntry {H : Type} : Lit × DataW H → Nat
  | (.string bytes, d) => bytes.length + uptoBulk d + 1
  | (_, d) => uptoBulk d + 1
 end
def uptoSmall : (H : Type) → List (DataW H) → Bool := fun _ ds => decide (uptoBulkAll ds ≤ 1048576)
def OpenSpec.upto (s : _root_.Go.ChangeSpec) : _root_.Go.OpenSpec := { _root_.Go.OpenSpec.ofChange s with cond := some uptoSmall }

/-- 'compositorlaw17.PieceTells', WHERE WHAT IT READS IS OF BULK AT MOST 1048576: true; the input reads as it did. -/
def pieceTellsUptoRow : OpenClaim := { program := "ytepllkdlnajbjaa", sum := "659f8369d76004034a76eb057938156a0a18b493a85724cab3d92bdb388a2e27", func := "compositor/compositorlaw17.PieceTells", spec := "pieceTells", unfollowed := true, recurses := true, apart := false, narrowed := true }
def PieceTellsUptoSaid : Prop := pieceTellsUptoRow.holds Try.pinned (OpenSpec.upto pieceTellsSpec)

/-- 'compositorlaw17.PieceWholes', WHERE WHAT IT READS IS OF BULK AT MOST 1048576: true; the input reads as it did. -/
def pieceWholesUptoRow : OpenClaim := { program := "ytepllkdlnajbjaa", sum := "659f8369d76004034a76eb057938156a0a18b493a85724cab3d92bdb388a2e27", func := "compositor/compositorlaw17.PieceWholes", spec := "pieceWholes", unfollowed := true, recurses := true, apart := false, narrowed := true }
def PieceWholesUptoSaid : Prop := pieceWholesUptoRow.holds Try.pinned (OpenSpec.upto pieceWholesSpec)

/-- 'compositorlaw17.PieceJoins', WHERE WHAT IT READS IS OF BULK AT MOST 1048576: true; the input reads as it did. -/
def pieceJoinsUptoRow : OpenClaim := { program := "ytepllkdlnajbjaa", sum := "659f8369d76004034a76eb057938156a0a18b493a85724cab3d92bdb388a2e27", func := "compositor/compositorlaw17.PieceJoins", spec := "pieceJoins", unfollowed := true, recurses := true, apart := false, narrowed := true }
def PieceJoinsUptoSaid : Prop := pieceJoinsUptoRow.holds Try.pinned (OpenSpec.upto pieceJoinsSpec)

end Rows
end Go.Proofs.Ytepllkdlnajbjaa
