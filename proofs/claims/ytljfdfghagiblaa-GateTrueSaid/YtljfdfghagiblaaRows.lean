/-
  No cell of these rows narrows 'for every input' (looked for: loops, veiled, ifaces, maps, wideKeys, modest, calm, conditions, laid).
  DERIVED. THE GIVEN ROWS OF THIS SEAT. 10 by the template 'for every input the law returns true; each argument reads behind the call as it read before'; 0 by the template 'total and deterministic' (their statements: YtljfdfghagiblaaTotals.lean).
  GIVEN WITH THE SEED: the statements are not yours to turn. If you find one false, say at which input.
  Laid BY PROGRAM, IN A SANDBOX (cutbox-rows.mjs): the forced cells as the released guide's own fill.sh prints them over the translation 12d7ed7eaf50bc89… (all of the seat's roots in one cut). By AI agents, Wed Nov 11 2026. No macro, syntax, notation, axiom, sorry.
-/
import Derived.Test.YtljfdfghagiblaaChecked
import GoSem.Claim
import GoSem.ClaimJoined
import GoSem.ClaimMapViews
import Derived.JoinedTies
import Derived.KernelRfl
namespace Go.Proofs.Ytljfdfghagiblaa
/- THE CELL 'sum', in the pinned program and in every row, IS THE sha256 OF THE DUMP (.gsa) THAT YtljfdfghagiblaaProg.lean LOADS. Nothing in Lean hashes anything: it is a label: what it is worth is what the hold of that sum in a sandbox is worth. -/
noncomputable def Try.pinned : Pinned := { name := "ytljfdfghagiblaa", sum := "12d7ed7eaf50bc8952b191d8eca7bf4ea329610448312bd6047b086b48ba5735", checked := Try.checked }
namespace Rows
def none {H : Type} : Left H := { results := [], args := [] }

/-- 'countersignlaw06.MerkleBuilds': WHATEVER THE INPUT: true; the input reads as it did. -/
def merkleBuildsSpec : ChangeSpec := { name := "merkleBuilds", fn := fun _ => fun
  | [d] => { results := [.lit (.bool true)], args := [d] }
  | _ => none }
def merkleBuildsRow : OpenClaim := { program := "ytljfdfghagiblaa", sum := "12d7ed7eaf50bc8952b191d8eca7bf4ea329610448312bd6047b086b48ba5735", func := "countersign/countersignlaw06.MerkleBuilds", spec := "merkleBuilds", unfollowed := true, recurses := true, plainKeys := false, apart := false }
def MerkleBuildsSaid : Prop := merkleBuildsRow.holds Try.pinned (OpenSpec.ofChange merkleBuildsSpec)

/-- ITS FALSE NEIGHBOUR: 'it returns false'. Refute it at one input. -/
def merkleBuildsWrong : ChangeSpec := { name := "merkleBuilds", fn := fun _ => fun
  | [d] => { results := [.lit (.bool false)], args := [d] }
  | _ => none }
def MerkleBuildsWrongFalsely : Prop := merkleBuildsRow.holds Try.pinned (OpenSpec.ofChange merkleBuildsWrong)

/-- 'countersignlaw06.MerkleShown': WHATEVER THE INPUT: true; the input reads as it did. -/
def merkleShownSpec : ChangeSpec := { name := "merkleShown", fn := fun _ => fun
  | [d1, d2, d3] => { results := [.lit (.bool true)], args := [d1, d2, d3] }
  | _ => none }
def merkleShownRow : OpenClaim := { program := "ytljfdfghagiblaa", sum := "12d7ed7eaf50bc8952b191d8eca7bf4ea329610448312bd6047b086b48ba5735", func := "countersign/countersignlaw06.MerkleShown", spec := "merkleShown", unfollowed := true, recurses := true, plainKeys := false, apart := false }
def MerkleShownSaid : Prop := merkleShownRow.holds Try.pinned (OpenSpec.ofChange merkleShownSpec)

/-- ITS FALSE NEIGHBOUR: 'it returns false'. Refute it at one input. -/
def merkleShownWrong : ChangeSpec := { name := "merkleShown", fn := fun _ => fun
  | [d1, d2, d3] => { results := [.lit (.bool false)], args := [d1, d2, d3] }
  | _ => none }
def MerkleShownWrongFalsely : Prop := merkleShownRow.holds Try.pinned (OpenSpec.ofChange merkleShownWrong)

/-- 'countersignlaw06.MerkleUnlike': WHATEVER THE INPUT: true; the input reads as it did. -/
def merkleUnlikeSpec : ChangeSpec := { name := "merkleUnlike", fn := fun _ => fun
  | [d1, d2] => { results := [.lit (.bool true)], args := [d1, d2] }
  | _ => none }
def merkleUnlikeRow : OpenClaim := { program := "ytljfdfghagiblaa", sum := "12d7ed7eaf50bc8952b191d8eca7bf4ea329610448312bd6047b086b48ba5735", func := "countersign/countersignlaw06.MerkleUnlike", spec := "merkleUnlike", unfollowed := true, recurses := true, plainKeys := false, apart := false }
def MerkleUnlikeSaid : Prop := merkleUnlikeRow.holds Try.pinned (OpenSpec.ofChange merkleUnlikeSpec)

/-- ITS FALSE NEIGHBOUR: 'it returns false'. Refute it at one input. -/
def merkleUnlikeWrong : ChangeSpec := { name := "merkleUnlike", fn := fun _ => fun
  | [d1, d2] => { results := [.lit (.bool false)], args := [d1, d2] }
  | _ => none }
def MerkleUnlikeWrongFalsely : Prop := merkleUnlikeRow.holds Try.pinned (OpenSpec.ofChange merkleUnlikeWrong)

/-- 'countersignlaw06.MerkleBinds': WHATEVER THE INPUT: true; the input reads as it did. -/
def merkleBindsSpec : ChangeSpec := { name := "merkleBinds", fn := fun _ => fun
  | [d1, d2] => { results := [.lit (.bool true)], args := [d1, d2] }
  | _ => none }
def merkleBindsRow : OpenClaim := { program := "ytljfdfghagiblaa", sum := "12d7ed7eaf50bc8952b191d8eca7bf4ea329610448312bd6047b086b48ba5735", func := "countersign/countersignlaw06.MerkleBinds", spec := "merkleBinds", unfollowed := true, recurses := true, plainKeys := false, apart := false }
def MerkleBindsSaid : Prop := merkleBindsRow.holds Try.pinned (OpenSpec.ofChange merkleBindsSpec)

/-- ITS FALSE NEIGHBOUR: 'it returns false'. Refute it at one input. -/
def merkleBindsWrong : ChangeSpec := { name := "merkleBinds", fn := fun _ => fun
  | [d1, d2] => { results := [.lit (.bool false)], args := [d1, d2] }
  | _ => none }
def MerkleBindsWrongFalsely : Prop := merkleBindsRow.holds Try.pinned (OpenSpec.ofChange merkleBindsWrong)

/-- 'countersignlaw06.MerkleSets': WHATEVER THE INPUT: true; the input reads as it did. -/
def merkleSetsSpec : ChangeSpec := { name := "merkleSets", fn := fun _ => fun
  | [d1, d2, d3] => { results := [.lit (.bool true)], args := [d1, d2, d3] }
  | _ => none }
def merkleSetsRow : OpenClaim := { program := "ytljfdfghagiblaa", sum := "12d7ed7eaf50bc8952b191d8eca7bf4ea329610448312bd6047b086b48ba5735", func := "countersign/countersignlaw06.MerkleSets", spec := "merkleSets", unfollowed := true, recurses := true, plainKeys := false, apart := false }
def MerkleSetsSaid : Prop := merkleSetsRow.holds Try.pinned (OpenSpec.ofChange merkleSetsSpec)

/-- ITS FALSE NEIGHBOUR: 'it returns false'. Refute it at one input. -/
def merkleSetsWrong : ChangeSpec := { name := "merkleSets", fn := fun _ => fun
  | [d1, d2, d3] => { results := [.lit (.bool false)], args := [d1, d2, d3] }
  | _ => none }
def MerkleSetsWrongFalsely : Prop := merkleSetsRow.holds Try.pinned (OpenSpec.ofChange merkleSetsWrong)

/-- 'countersignlaw06.MerkleTells': WHATEVER THE INPUT: true; the input reads as it did. -/
def merkleTellsSpec : ChangeSpec := { name := "merkleTells", fn := fun _ => fun
  | [d1, d2, d3] => { results := [.lit (.bool true)], args := [d1, d2, d3] }
  | _ => none }
def merkleTellsRow : OpenClaim := { program := "ytljfdfghagiblaa", sum := "12d7ed7eaf50bc8952b191d8eca7bf4ea329610448312bd6047b086b48ba5735", func := "countersign/countersignlaw06.MerkleTells", spec := "merkleTells", unfollowed := true, recurses := true, plainKeys := false, apart := false }
def MerkleTellsSaid : Prop := merkleTellsRow.holds Try.pinned (OpenSpec.ofChange merkleTellsSpec)

/-- ITS FALSE NEIGHBOUR: 'it returns false'. Refute it at one input. -/
def merkleTellsWrong : ChangeSpec := { name := "merkleTells", fn := fun _ => fun
  | [d1, d2, d3] => { results := [.lit (.bool false)], args := [d1, d2, d3] }
  | _ => none }
def MerkleTellsWrongFalsely : Prop := merkleTellsRow.holds Try.pinned (OpenSpec.ofChange merkleTellsWrong)

/-- 'countersignlaw23.GateForged': WHATEVER THE INPUT: true; the input reads as it did. -/
def gateForgedSpec : ChangeSpec := { name := "gateForged", fn := fun _ => fun
  | [d1, d2, d3] => { results := [.lit (.bool true)], args := [d1, d2, d3] }
  | _ => none }
def gateForgedRow : OpenClaim := { program := "ytljfdfghagiblaa", sum := "12d7ed7eaf50bc8952b191d8eca7bf4ea329610448312bd6047b086b48ba5735", func := "countersign/countersignlaw23.GateForged", spec := "gateForged", inPlace := ["internal/abi.NoEscape", "internal/bytealg.MakeNoZero"], unfollowed := true, recurses := true, plainKeys := false, apart := false }
def GateForgedSaid : Prop := gateForgedRow.holds Try.pinned (OpenSpec.ofChange gateForgedSpec)

/-- ITS FALSE NEIGHBOUR: 'it returns false'. Refute it at one input. -/
def gateForgedWrong : ChangeSpec := { name := "gateForged", fn := fun _ => fun
  | [d1, d2, d3] => { results := [.lit (.bool false)], args := [d1, d2, d3] }
  | _ => none }
def GateForgedWrongFalsely : Prop := gateForgedRow.holds Try.pinned (OpenSpec.ofChange gateForgedWrong)

/-- 'countersignlaw23.GateServes': WHATEVER THE INPUT: true; the input reads as it did. -/
def gateServesSpec : ChangeSpec := { name := "gateServes", fn := fun _ => fun
  | [d1, d2] => { results := [.lit (.bool true)], args := [d1, d2] }
  | _ => none }
def gateServesRow : OpenClaim := { program := "ytljfdfghagiblaa", sum := "12d7ed7eaf50bc8952b191d8eca7bf4ea329610448312bd6047b086b48ba5735", func := "countersign/countersignlaw23.GateServes", spec := "gateServes", inPlace := ["internal/abi.NoEscape", "internal/bytealg.MakeNoZero"], unfollowed := true, recurses := true, plainKeys := false, apart := false }
def GateServesSaid : Prop := gateServesRow.holds Try.pinned (OpenSpec.ofChange gateServesSpec)

/-- ITS FALSE NEIGHBOUR: 'it returns false'. Refute it at one input. -/
def gateServesWrong : ChangeSpec := { name := "gateServes", fn := fun _ => fun
  | [d1, d2] => { results := [.lit (.bool false)], args := [d1, d2] }
  | _ => none }
def GateServesWrongFalsely : Prop := gateServesRow.holds Try.pinned (OpenSpec.ofChange gateServesWrong)

/-- 'countersignlaw23.GateTrue': WHATEVER THE INPUT: true; the input reads as it did. -/
def gateTrueSpec : ChangeSpec := { name := "gateTrue", fn := fun _ => fun
  | [d1, d2, d3] => { results := [.lit (.bool true)], args := [d1, d2, d3] }
  | _ => none }
def gateTrueRow : OpenClaim := { program := "ytljfdfghagiblaa", sum := "12d7ed7eaf50bc8952b191d8eca7bf4ea329610448312bd6047b086b48ba5735", func := "countersign/countersignlaw23.GateTrue", spec := "gateTrue", inPlace := ["internal/abi.NoEscape", "internal/bytealg.MakeNoZero"], unfollowed := true, recurses := true, plainKeys := false, apart := false }
def GateTrueSaid : Prop := gateTrueRow.holds Try.pinned (OpenSpec.ofChange gateTrueSpec)

/-- ITS FALSE NEIGHBOUR: 'it returns false'. Refute it at one input. -/
def gateTrueWrong : ChangeSpec := { name := "gateTrue", fn := fun _ => fun
  | [d1, d2, d3] => { results := [.lit (.bool false)], args := [d1, d2, d3] }
  | _ => none }
def GateTrueWrongFalsely : Prop := gateTrueRow.holds Try.pinned (OpenSpec.ofChange gateTrueWrong)

/-- 'countersignlaw23.GateStays': WHATEVER THE INPUT: true; the input reads as it did. -/
def gateStaysSpec : ChangeSpec := { name := "gateStays", fn := fun _ => fun
  | [d1, d2, d3] => { results := [.lit (.bool true)], args := [d1, d2, d3] }
  | _ => none }
def gateStaysRow : OpenClaim := { program := "ytljfdfghagiblaa", sum := "12d7ed7eaf50bc8952b191d8eca7bf4ea329610448312bd6047b086b48ba5735", func := "countersign/countersignlaw23.GateStays", spec := "gateStays", inPlace := ["internal/abi.NoEscape", "internal/bytealg.MakeNoZero"], unfollowed := true, recurses := true, plainKeys := false, apart := false }
def GateStaysSaid : Prop := gateStaysRow.holds Try.pinned (OpenSpec.ofChange gateStaysSpec)

/-- ITS FALSE NEIGHBOUR: 'it returns false'. Refute it at one input. -/
def gateStaysWrong : ChangeSpec := { name := "gateStays", fn := fun _ => fun
  | [d1, d2, d3] => { results := [.lit (.bool false)], args := [d1, d2, d3] }
  | _ => none }
def GateStaysWrongFalsely : Prop := gateStaysRow.holds Try.pinned (OpenSpec.ofChange gateStaysWrong)

/- THE SECOND FORM. 'bulk': how many values and letters a reading holds, each counted each time it is reached (what is shared counts as often as it is met; a slice's spare places count too). A statement '..UptoSaid' is the law's where the arguments, and the package variables that the reading takes, are together of bulk at most 1048576: NARROWER than '..Said'. Prove '..Said' where nothing that the law and all that it calls make is longer than what came in: it says more and counts as full. Else prove '..UptoSaid'. A law counts once. -/
mutual
def uptoBulk {H : Type} : DataW H → Nat
  | .lit (.string bytes) => bytes.length + 1
  | .lit _ => 1
  | .nil => 1
  | .ptr d => uptoBulk d + 1
  | .slice elems spare => uptoBulkAll elems + uptoBulkAll spare + 1
  | .agg parts => uptoBulkAll parts + 1
  | .iface _ d => uptoBulk d + 1
  | .map entries => uptoBulkEntries entries + 1
  | .held _ => 1
def uptoBulkAll {H : Type} : List (DataW H) → Nat
  | [] => 0
  | d :: r => uptoBulk d + uptoBulkAll r
def uptoBulkEntries {H : Type} : List (Lit × DataW H) → Nat
  | [] => 0
  | x :: r => uptoBulkEntry x + uptoBulkEntries r
def uptoBulkEntry {H : Type} : Lit × DataW H → Nat
  | (.string bytes, d) => bytes.length + uptoBulk d + 1
  | (_, d) => uptoBulk d + 1
 end
def uptoSmall : (H : Type) → List (DataW H) → Bool := fun _ ds => decide (uptoBulkAll ds ≤ 1048576)
def OpenSpec.upto (s : _root_.Go.ChangeSpec) : _root_.Go.OpenSpec := { _root_.Go.OpenSpec.ofChange s with cond := some uptoSmall }

/-- 'countersignlaw06.MerkleBuilds', WHERE WHAT IT READS IS OF BULK AT MOST 1048576: true; the input reads as it did. -/
def merkleBuildsUptoRow : OpenClaim := { program := "ytljfdfghagiblaa", sum := "12d7ed7eaf50bc8952b191d8eca7bf4ea329610448312bd6047b086b48ba5735", func := "countersign/countersignlaw06.MerkleBuilds", spec := "merkleBuilds", unfollowed := true, recurses := true, plainKeys := false, apart := false, narrowed := true }
def MerkleBuildsUptoSaid : Prop := merkleBuildsUptoRow.holds Try.pinned (OpenSpec.upto merkleBuildsSpec)

/-- 'countersignlaw06.MerkleShown', WHERE WHAT IT READS IS OF BULK AT MOST 1048576: true; the input reads as it did. -/
def merkleShownUptoRow : OpenClaim := { program := "ytljfdfghagiblaa", sum := "12d7ed7eaf50bc8952b191d8eca7bf4ea329610448312bd6047b086b48ba5735", func := "countersign/countersignlaw06.MerkleShown", spec := "merkleShown", unfollowed := true, recurses := true, plainKeys := false, apart := false, narrowed := true }
def MerkleShownUptoSaid : Prop := merkleShownUptoRow.holds Try.pinned (OpenSpec.upto merkleShownSpec)

/-- 'countersignlaw06.MerkleUnlike', WHERE WHAT IT READS IS OF BULK AT MOST 1048576: true; the input reads as it did. -/
def merkleUnlikeUptoRow : OpenClaim := { program := "ytljfdfghagiblaa", sum := "12d7ed7eaf50bc8952b191d8eca7bf4ea329610448312bd6047b086b48ba5735", func := "countersign/countersignlaw06.MerkleUnlike", spec := "merkleUnlike", unfollowed := true, recurses := true, plainKeys := false, apart := false, narrowed := true }
def MerkleUnlikeUptoSaid : Prop := merkleUnlikeUptoRow.holds Try.pinned (OpenSpec.upto merkleUnlikeSpec)

/-- 'countersignlaw06.MerkleBinds', WHERE WHAT IT READS IS OF BULK AT MOST 1048576: true; the input reads as it did. -/
def merkleBindsUptoRow : OpenClaim := { program := "ytljfdfghagiblaa", sum := "12d7ed7eaf50bc8952b191d8eca7bf4ea329610448312bd6047b086b48ba5735", func := "countersign/countersignlaw06.MerkleBinds", spec := "merkleBinds", unfollowed := true, recurses := true, plainKeys := false, apart := false, narrowed := true }
def MerkleBindsUptoSaid : Prop := merkleBindsUptoRow.holds Try.pinned (OpenSpec.upto merkleBindsSpec)

/-- 'countersignlaw06.MerkleSets', WHERE WHAT IT READS IS OF BULK AT MOST 1048576: true; the input reads as it did. -/
def merkleSetsUptoRow : OpenClaim := { program := "ytljfdfghagiblaa", sum := "12d7ed7eaf50bc8952b191d8eca7bf4ea329610448312bd6047b086b48ba5735", func := "countersign/countersignlaw06.MerkleSets", spec := "merkleSets", unfollowed := true, recurses := true, plainKeys := false, apart := false, narrowed := true }
def MerkleSetsUptoSaid : Prop := merkleSetsUptoRow.holds Try.pinned (OpenSpec.upto merkleSetsSpec)

/-- 'countersignlaw06.MerkleTells', WHERE WHAT IT READS IS OF BULK AT MOST 1048576: true; the input reads as it did. -/
def merkleTellsUptoRow : OpenClaim := { program := "ytljfdfghagiblaa", sum := "12d7ed7eaf50bc8952b191d8eca7bf4ea329610448312bd6047b086b48ba5735", func := "countersign/countersignlaw06.MerkleTells", spec := "merkleTells", unfollowed := true, recurses := true, plainKeys := false, apart := false, narrowed := true }
def MerkleTellsUptoSaid : Prop := merkleTellsUptoRow.holds Try.pinned (OpenSpec.upto merkleTellsSpec)

/-- 'countersignlaw23.GateForged', WHERE WHAT IT READS IS OF BULK AT MOST 1048576: true; the input reads as it did. -/
def gateForgedUptoRow : OpenClaim := { program := "ytljfdfghagiblaa", sum := "12d7ed7eaf50bc8952b191d8eca7bf4ea329610448312bd6047b086b48ba5735", func := "countersign/countersignlaw23.GateForged", spec := "gateForged", inPlace := ["internal/abi.NoEscape", "internal/bytealg.MakeNoZero"], unfollowed := true, recurses := true, plainKeys := false, apart := false, narrowed := true }
def GateForgedUptoSaid : Prop := gateForgedUptoRow.holds Try.pinned (OpenSpec.upto gateForgedSpec)

/-- 'countersignlaw23.GateServes', WHERE WHAT IT READS IS OF BULK AT MOST 1048576: true; the input reads as it did. -/
def gateServesUptoRow : OpenClaim := { program := "ytljfdfghagiblaa", sum := "12d7ed7eaf50bc8952b191d8eca7bf4ea329610448312bd6047b086b48ba5735", func := "countersign/countersignlaw23.GateServes", spec := "gateServes", inPlace := ["internal/abi.NoEscape", "internal/bytealg.MakeNoZero"], unfollowed := true, recurses := true, plainKeys := false, apart := false, narrowed := true }
def GateServesUptoSaid : Prop := gateServesUptoRow.holds Try.pinned (OpenSpec.upto gateServesSpec)

/-- 'countersignlaw23.GateTrue', WHERE WHAT IT READS IS OF BULK AT MOST 1048576: true; the input reads as it did. -/
def gateTrueUptoRow : OpenClaim := { program := "ytljfdfghagiblaa", sum := "12d7ed7eaf50bc8952b191d8eca7bf4ea329610448312bd6047b086b48ba5735", func := "countersign/countersignlaw23.GateTrue", spec := "gateTrue", inPlace := ["internal/abi.NoEscape", "internal/bytealg.MakeNoZero"], unfollowed := true, recurses := true, plainKeys := false, apart := false, narrowed := true }
def GateTrueUptoSaid : Prop := gateTrueUptoRow.holds Try.pinned (OpenSpec.upto gateTrueSpec)

/-- 'countersignlaw23.GateStays', WHERE WHAT IT READS IS OF BULK AT MOST 1048576: true; the input reads as it did. -/
def gateStaysUptoRow : OpenClaim := { program := "ytljfdfghagiblaa", sum := "12d7ed7eaf50bc8952b191d8eca7bf4ea329610448312bd6047b086b48ba5735", func := "countersign/countersignlaw23.GateStays", spec := "gateStays", inPlace := ["internal/abi.NoEscape", "internal/bytealg.MakeNoZero"], unfollowed := true, recurses := true, plainKeys := false, apart := false, narrowed := true }
def GateStaysUptoSaid : Prop := gateStaysUptoRow.holds Try.pinned (OpenSpec.upto gateStaysSpec)

end Rows
end Go.Proofs.Ytljfdfghagiblaa
