/-
  No cell of these rows narrows 'for every input' (looked for: loops, veiled, ifaces, maps, wideKeys, modest, calm, conditions, laid).
  DERIVED. THE GIVEN ROWS OF THIS SEAT. 2 by the template 'for every input the law returns true; each argument reads behind the call as it read before'; 0 by the template 'total and deterministic' (their statements: YtgakbdikappdbaaTotals.lean).
  GIVEN WITH THE SEED: the statements are not yours to turn. If you find one false, say at which input.
  Laid BY PROGRAM, IN A SANDBOX (cutbox-rows.mjs): the forced cells as the released guide's own fill.sh prints them over the translation a917c6bc74b1240a… (all of the seat's roots in one cut). By AI agents, Wed Nov 11 2026. No macro, syntax, notation, axiom, sorry.
-/
import Derived.Test.YtgakbdikappdbaaChecked
import GoSem.Claim
import GoSem.ClaimJoined
import GoSem.ClaimMapViews
import Derived.JoinedTies
import Derived.KernelRfl
namespace Go.Proofs.Ytgakbdikappdbaa
/- THE CELL 'sum', in the pinned program and in every row, IS THE sha256 OF THE DUMP (.gsa) THAT YtgakbdikappdbaaProg.lean LOADS. Nothing in Lean hashes anything: it is a label: what it is worth is what the hold of that sum in a sandbox is worth. -/
noncomputable def Try.pinned : Pinned := { name := "ytgakbdikappdbaa", sum := "a917c6bc74b1240a5ca60713101889006d656f0d94c0ac77f88885e9c1e36b6a", checked := Try.checked }
namespace Rows
def none {H : Type} : Left H := { results := [], args := [] }

/-- 'countersignlaw18.RaftTells': WHATEVER THE INPUT: true; the input reads as it did. -/
def raftTellsSpec : ChangeSpec := { name := "raftTells", fn := fun _ => fun
  | [d1, d2] => { results := [.lit (.bool true)], args := [d1, d2] }
  | _ => none }
def raftTellsRow : OpenClaim := { program := "ytgakbdikappdbaa", sum := "a917c6bc74b1240a5ca60713101889006d656f0d94c0ac77f88885e9c1e36b6a", func := "countersign/countersignlaw18.RaftTells", spec := "raftTells", unfollowed := true, recurses := true, apart := false }
def RaftTellsSaid : Prop := raftTellsRow.holds Try.pinned (OpenSpec.ofChange raftTellsSpec)

/-- ITS FALSE NEIGHBOUR: 'it returns false'. Refute it at one input. -/
def raftTellsWrong : ChangeSpec := { name := "raftTells", fn := fun _ => fun
  | [d1, d2] => { results := [.lit (.bool false)], args := [d1, d2] }
  | _ => none }
def RaftTellsWrongFalsely : Prop := raftTellsRow.holds Try.pinned (OpenSpec.ofChange raftTellsWrong)

/-- 'countersignlaw18.RaftWaits': WHATEVER THE INPUT: true; the input reads as it did. -/
def raftWaitsSpec : ChangeSpec := { name := "raftWaits", fn := fun _ => fun
  | [d1, d2] => { results := [.lit (.bool true)], args := [d1, d2] }
  | _ => none }
def raftWaitsRow : OpenClaim := { program := "ytgakbdikappdbaa", sum := "a917c6bc74b1240a5ca60713101889006d656f0d94c0ac77f88885e9c1e36b6a", func := "countersign/countersignlaw18.RaftWaits", spec := "raftWaits", unfollowed := true, recurses := true, apart := false }
def RaftWaitsSaid : Prop := raftWaitsRow.holds Try.pinned (OpenSpec.ofChange raftWaitsSpec)

/-- ITS FALSE NEIGHBOUR: 'it returns false'. Refute it at one input. -/
def raftWaitsWrong : ChangeSpec := { name := "raftWaits", fn := fun _ => fun
  | [d1, d2] => { results := [.lit (.bool false)], args := [d1, d2] }
  | _ => none }
def RaftWaitsWrongFalsely : Prop := raftWaitsRow.holds Try.pinned (OpenSpec.ofChange raftWaitsWrong)

/- THE SECOND FORM. 'bulk': how many values and letters a reading holds, each counted each time it is reached (what is shared counts as often as it is met; a slice's spare places count too). A statement '..UptoSaid' is the law's where the arguments, and the package variables that the reading takes, are together of bulk at most 1048576: NARROWER than '..Said'. Prove '..Said' where nothing that the law and all that it calls make is longer than what came in: it says more and counts as full. Else prove '..UptoSaid'. A law counts once. -/
mutual
def uptoBulk {H : Type} : DataW H → Nat
  | .lit (.string bytes) => bytes.length + 1
  | .lit _ => 1
  | .nil => 1
  | .ptr d => uptoBulk d + 1
  | .slice elems spare => uptoBulkAll elems + uptoBulkAll spare + 1
  | .agg parts => uptoBulkAll parts + 1
  | .iface _ d => uptoBulk d + 1
  | .map entries => uptoBulkEntries entries + 1
  | .held _ => 1
def uptoBulkAll {H : Type} : List (DataW H) → Nat
  | [] => 0
  | d :: r => uptoBulk d + uptoBulkAll r
def uptoBulkEntries {H : Type} : List (Lit × DataW H) → Nat
  | [] => 0
  | x :: r => uptoBulkEntry x + uptoBulkEntries r
def uptoBulkEntry {H : Type} : Lit × DataW H → Nat
  | (.string bytes, d) => bytes.length + uptoBulk d + 1
  | (_, d) => uptoBulk d + 1
 end
def uptoSmall : (H : Type) → List (DataW H) → Bool := fun _ ds => decide (uptoBulkAll ds ≤ 1048576)
def OpenSpec.upto (s : _root_.Go.ChangeSpec) : _root_.Go.OpenSpec := { _root_.Go.OpenSpec.ofChange s with cond := some uptoSmall }

/-- 'countersignlaw18.RaftTells', WHERE WHAT IT READS IS OF BULK AT MOST 1048576: true; the input reads as it did. -/
def raftTellsUptoRow : OpenClaim := { program := "ytgakbdikappdbaa", sum := "a917c6bc74b1240a5ca60713101889006d656f0d94c0ac77f88885e9c1e36b6a", func := "countersign/countersignlaw18.RaftTells", spec := "raftTells", unfollowed := true, recurses := true, apart := false, narrowed := true }
def RaftTellsUptoSaid : Prop := raftTellsUptoRow.holds Try.pinned (OpenSpec.upto raftTellsSpec)

/-- 'countersignlaw18.RaftWaits', WHERE WHAT IT READS IS OF BULK AT MOST 1048576: true; the input reads as it did. -/
def raftWaitsUptoRow : OpenClaim := { program := "ytgakbdikappdbaa", sum := "a917c6bc74b1240a5ca60713101889006d656f0d94c0ac77f88885e9c1e36b6a", func := "countersign/countersignlaw18.RaftWaits", spec := "raftWaits", unfollowed := true, recurses := true, apart := false, narrowed := true }
def RaftWaitsUptoSaid : Prop := raftWaitsUptoRow.holds Try.pinned (OpenSpec.upto raftWaitsSpec)

end Rows
end Go.Proofs.Ytgakbdikappdbaa
