/-
  No cell of these rows narrows 'for every input' (looked for: loops, veiled, ifaces, maps, wideKeys, modest, calm, conditions, laid).
  DERIVED. THE GIVEN ROWS OF THIS SEAT. 10 by the template 'for every input the law returns true; each argument reads behind the call as it read before'; 0 by the template 'total and deterministic' (their statements: YtgfanlafbjbkaaaTotals.lean).
  GIVEN WITH THE SEED: the statements are not yours to turn. If you find one false, say at which input.
  Laid BY PROGRAM, IN A SANDBOX (cutbox-rows.mjs): the forced cells as the released guide's own fill.sh prints them over the translation d5e176d4902ce4ed… (all of the seat's roots in one cut). By AI agents, Wed Nov 11 2026. No macro, syntax, notation, axiom, sorry.
-/
import Derived.Test.YtgfanlafbjbkaaaChecked
import GoSem.Claim
import GoSem.ClaimJoined
import GoSem.ClaimMapViews
import Derived.JoinedTies
import Derived.KernelRfl
namespace Go.Proofs.Ytgfanlafbjbkaaa
/- THE CELL 'sum', in the pinned program and in every row, IS THE sha256 OF THE DUMP (.gsa) THAT YtgfanlafbjbkaaaProg.lean LOADS. Nothing in Lean hashes anything: it is a label: what it is worth is what the hold of that sum in a sandbox is worth. -/
noncomputable def Try.pinned : Pinned := { name := "ytgfanlafbjbkaaa", sum := "d5e176d4902ce4ed6f7fbfe1e4d55e6b1785eae7eb6887acf48678cad1350d53", checked := Try.checked }
namespace Rows
def none {H : Type} : Left H := { results := [], args := [] }

/-- 'countersignlaw08.DiskPlays': WHATEVER THE INPUT: true; the input reads as it did. -/
def diskPlaysSpec : ChangeSpec := { name := "diskPlays", fn := fun _ => fun
  | [d] => { results := [.lit (.bool true)], args := [d] }
  | _ => none }
def diskPlaysRow : OpenClaim := { program := "ytgfanlafbjbkaaa", sum := "d5e176d4902ce4ed6f7fbfe1e4d55e6b1785eae7eb6887acf48678cad1350d53", func := "countersign/countersignlaw08.DiskPlays", spec := "diskPlays", inPlace := ["internal/abi.NoEscape", "internal/bytealg.MakeNoZero"], unfollowed := true, recurses := true, apart := false }
def DiskPlaysSaid : Prop := diskPlaysRow.holds Try.pinned (OpenSpec.ofChange diskPlaysSpec)

/-- ITS FALSE NEIGHBOUR: 'it returns false'. Refute it at one input. -/
def diskPlaysWrong : ChangeSpec := { name := "diskPlays", fn := fun _ => fun
  | [d] => { results := [.lit (.bool false)], args := [d] }
  | _ => none }
def DiskPlaysWrongFalsely : Prop := diskPlaysRow.holds Try.pinned (OpenSpec.ofChange diskPlaysWrong)

/-- 'countersignlaw08.DiskSafe': WHATEVER THE INPUT: true; the input reads as it did. -/
def diskSafeSpec : ChangeSpec := { name := "diskSafe", fn := fun _ => fun
  | [d1, d2, d3] => { results := [.lit (.bool true)], args := [d1, d2, d3] }
  | _ => none }
def diskSafeRow : OpenClaim := { program := "ytgfanlafbjbkaaa", sum := "d5e176d4902ce4ed6f7fbfe1e4d55e6b1785eae7eb6887acf48678cad1350d53", func := "countersign/countersignlaw08.DiskSafe", spec := "diskSafe", inPlace := ["internal/abi.NoEscape", "internal/bytealg.MakeNoZero"], unfollowed := true, recurses := true, apart := false }
def DiskSafeSaid : Prop := diskSafeRow.holds Try.pinned (OpenSpec.ofChange diskSafeSpec)

/-- ITS FALSE NEIGHBOUR: 'it returns false'. Refute it at one input. -/
def diskSafeWrong : ChangeSpec := { name := "diskSafe", fn := fun _ => fun
  | [d1, d2, d3] => { results := [.lit (.bool false)], args := [d1, d2, d3] }
  | _ => none }
def DiskSafeWrongFalsely : Prop := diskSafeRow.holds Try.pinned (OpenSpec.ofChange diskSafeWrong)

/-- 'countersignlaw08.DiskEnds': WHATEVER THE INPUT: true; the input reads as it did. -/
def diskEndsSpec : ChangeSpec := { name := "diskEnds", fn := fun _ => fun
  | [d] => { results := [.lit (.bool true)], args := [d] }
  | _ => none }
def diskEndsRow : OpenClaim := { program := "ytgfanlafbjbkaaa", sum := "d5e176d4902ce4ed6f7fbfe1e4d55e6b1785eae7eb6887acf48678cad1350d53", func := "countersign/countersignlaw08.DiskEnds", spec := "diskEnds", inPlace := ["internal/abi.NoEscape", "internal/bytealg.MakeNoZero"], unfollowed := true, recurses := true, apart := false }
def DiskEndsSaid : Prop := diskEndsRow.holds Try.pinned (OpenSpec.ofChange diskEndsSpec)

/-- ITS FALSE NEIGHBOUR: 'it returns false'. Refute it at one input. -/
def diskEndsWrong : ChangeSpec := { name := "diskEnds", fn := fun _ => fun
  | [d] => { results := [.lit (.bool false)], args := [d] }
  | _ => none }
def DiskEndsWrongFalsely : Prop := diskEndsRow.holds Try.pinned (OpenSpec.ofChange diskEndsWrong)

/-- 'countersignlaw08.DiskTorn': WHATEVER THE INPUT: true; the input reads as it did. -/
def diskTornSpec : ChangeSpec := { name := "diskTorn", fn := fun _ => fun
  | [d1, d2] => { results := [.lit (.bool true)], args := [d1, d2] }
  | _ => none }
def diskTornRow : OpenClaim := { program := "ytgfanlafbjbkaaa", sum := "d5e176d4902ce4ed6f7fbfe1e4d55e6b1785eae7eb6887acf48678cad1350d53", func := "countersign/countersignlaw08.DiskTorn", spec := "diskTorn", inPlace := ["internal/abi.NoEscape", "internal/bytealg.MakeNoZero"], unfollowed := true, recurses := true, apart := false }
def DiskTornSaid : Prop := diskTornRow.holds Try.pinned (OpenSpec.ofChange diskTornSpec)

/-- ITS FALSE NEIGHBOUR: 'it returns false'. Refute it at one input. -/
def diskTornWrong : ChangeSpec := { name := "diskTorn", fn := fun _ => fun
  | [d1, d2] => { results := [.lit (.bool false)], args := [d1, d2] }
  | _ => none }
def DiskTornWrongFalsely : Prop := diskTornRow.holds Try.pinned (OpenSpec.ofChange diskTornWrong)

/-- 'countersignlaw08.DiskTurned': WHATEVER THE INPUT: true; the input reads as it did. -/
def diskTurnedSpec : ChangeSpec := { name := "diskTurned", fn := fun _ => fun
  | [d1, d2, d3] => { results := [.lit (.bool true)], args := [d1, d2, d3] }
  | _ => none }
def diskTurnedRow : OpenClaim := { program := "ytgfanlafbjbkaaa", sum := "d5e176d4902ce4ed6f7fbfe1e4d55e6b1785eae7eb6887acf48678cad1350d53", func := "countersign/countersignlaw08.DiskTurned", spec := "diskTurned", inPlace := ["internal/abi.NoEscape", "internal/bytealg.MakeNoZero"], unfollowed := true, recurses := true, apart := false }
def DiskTurnedSaid : Prop := diskTurnedRow.holds Try.pinned (OpenSpec.ofChange diskTurnedSpec)

/-- ITS FALSE NEIGHBOUR: 'it returns false'. Refute it at one input. -/
def diskTurnedWrong : ChangeSpec := { name := "diskTurned", fn := fun _ => fun
  | [d1, d2, d3] => { results := [.lit (.bool false)], args := [d1, d2, d3] }
  | _ => none }
def DiskTurnedWrongFalsely : Prop := diskTurnedRow.holds Try.pinned (OpenSpec.ofChange diskTurnedWrong)

/-- 'countersignlaw09.SlotFrames': WHATEVER THE INPUT: true; the input reads as it did. -/
def slotFramesSpec : ChangeSpec := { name := "slotFrames", fn := fun _ => fun
  | [d1, d2] => { results := [.lit (.bool true)], args := [d1, d2] }
  | _ => none }
def slotFramesRow : OpenClaim := { program := "ytgfanlafbjbkaaa", sum := "d5e176d4902ce4ed6f7fbfe1e4d55e6b1785eae7eb6887acf48678cad1350d53", func := "countersign/countersignlaw09.SlotFrames", spec := "slotFrames", inPlace := ["internal/abi.NoEscape", "internal/bytealg.MakeNoZero"], unfollowed := true, recurses := true, apart := false }
def SlotFramesSaid : Prop := slotFramesRow.holds Try.pinned (OpenSpec.ofChange slotFramesSpec)

/-- ITS FALSE NEIGHBOUR: 'it returns false'. Refute it at one input. -/
def slotFramesWrong : ChangeSpec := { name := "slotFrames", fn := fun _ => fun
  | [d1, d2] => { results := [.lit (.bool false)], args := [d1, d2] }
  | _ => none }
def SlotFramesWrongFalsely : Prop := slotFramesRow.holds Try.pinned (OpenSpec.ofChange slotFramesWrong)

/-- 'countersignlaw09.SlotTorn': WHATEVER THE INPUT: true; the input reads as it did. -/
def slotTornSpec : ChangeSpec := { name := "slotTorn", fn := fun _ => fun
  | [d1, d2, d3] => { results := [.lit (.bool true)], args := [d1, d2, d3] }
  | _ => none }
def slotTornRow : OpenClaim := { program := "ytgfanlafbjbkaaa", sum := "d5e176d4902ce4ed6f7fbfe1e4d55e6b1785eae7eb6887acf48678cad1350d53", func := "countersign/countersignlaw09.SlotTorn", spec := "slotTorn", inPlace := ["internal/abi.NoEscape", "internal/bytealg.MakeNoZero"], unfollowed := true, recurses := true, apart := false }
def SlotTornSaid : Prop := slotTornRow.holds Try.pinned (OpenSpec.ofChange slotTornSpec)

/-- ITS FALSE NEIGHBOUR: 'it returns false'. Refute it at one input. -/
def slotTornWrong : ChangeSpec := { name := "slotTorn", fn := fun _ => fun
  | [d1, d2, d3] => { results := [.lit (.bool false)], args := [d1, d2, d3] }
  | _ => none }
def SlotTornWrongFalsely : Prop := slotTornRow.holds Try.pinned (OpenSpec.ofChange slotTornWrong)

/-- 'countersignlaw09.SlotCounts': WHATEVER THE INPUT: true; the input reads as it did. -/
def slotCountsSpec : ChangeSpec := { name := "slotCounts", fn := fun _ => fun
  | [d] => { results := [.lit (.bool true)], args := [d] }
  | _ => none }
def slotCountsRow : OpenClaim := { program := "ytgfanlafbjbkaaa", sum := "d5e176d4902ce4ed6f7fbfe1e4d55e6b1785eae7eb6887acf48678cad1350d53", func := "countersign/countersignlaw09.SlotCounts", spec := "slotCounts", inPlace := ["internal/abi.NoEscape", "internal/bytealg.MakeNoZero"], unfollowed := true, recurses := true, apart := false }
def SlotCountsSaid : Prop := slotCountsRow.holds Try.pinned (OpenSpec.ofChange slotCountsSpec)

/-- ITS FALSE NEIGHBOUR: 'it returns false'. Refute it at one input. -/
def slotCountsWrong : ChangeSpec := { name := "slotCounts", fn := fun _ => fun
  | [d] => { results := [.lit (.bool false)], args := [d] }
  | _ => none }
def SlotCountsWrongFalsely : Prop := slotCountsRow.holds Try.pinned (OpenSpec.ofChange slotCountsWrong)

/-- 'countersignlaw09.SlotKeeps': WHATEVER THE INPUT: true; the input reads as it did. -/
def slotKeepsSpec : ChangeSpec := { name := "slotKeeps", fn := fun _ => fun
  | [d1, d2, d3] => { results := [.lit (.bool true)], args := [d1, d2, d3] }
  | _ => none }
def slotKeepsRow : OpenClaim := { program := "ytgfanlafbjbkaaa", sum := "d5e176d4902ce4ed6f7fbfe1e4d55e6b1785eae7eb6887acf48678cad1350d53", func := "countersign/countersignlaw09.SlotKeeps", spec := "slotKeeps", inPlace := ["internal/abi.NoEscape", "internal/bytealg.MakeNoZero"], unfollowed := true, recurses := true, apart := false }
def SlotKeepsSaid : Prop := slotKeepsRow.holds Try.pinned (OpenSpec.ofChange slotKeepsSpec)

/-- ITS FALSE NEIGHBOUR: 'it returns false'. Refute it at one input. -/
def slotKeepsWrong : ChangeSpec := { name := "slotKeeps", fn := fun _ => fun
  | [d1, d2, d3] => { results := [.lit (.bool false)], args := [d1, d2, d3] }
  | _ => none }
def SlotKeepsWrongFalsely : Prop := slotKeepsRow.holds Try.pinned (OpenSpec.ofChange slotKeepsWrong)

/-- 'countersignlaw09.SlotPlays': WHATEVER THE INPUT: true; the input reads as it did. -/
def slotPlaysSpec : ChangeSpec := { name := "slotPlays", fn := fun _ => fun
  | [d] => { results := [.lit (.bool true)], args := [d] }
  | _ => none }
def slotPlaysRow : OpenClaim := { program := "ytgfanlafbjbkaaa", sum := "d5e176d4902ce4ed6f7fbfe1e4d55e6b1785eae7eb6887acf48678cad1350d53", func := "countersign/countersignlaw09.SlotPlays", spec := "slotPlays", inPlace := ["internal/abi.NoEscape", "internal/bytealg.MakeNoZero"], unfollowed := true, recurses := true, apart := false }
def SlotPlaysSaid : Prop := slotPlaysRow.holds Try.pinned (OpenSpec.ofChange slotPlaysSpec)

/-- ITS FALSE NEIGHBOUR: 'it returns false'. Refute it at one input. -/
def slotPlaysWrong : ChangeSpec := { name := "slotPlays", fn := fun _ => fun
  | [d] => { results := [.lit (.bool false)], args := [d] }
  | _ => none }
def SlotPlaysWrongFalsely : Prop := slotPlaysRow.holds Try.pinned (OpenSpec.ofChange slotPlaysWrong)

/- THE SECOND FORM. 'bulk': how many values and letters a reading holds, each counted each time it is reached (what is shared counts as often as it is met; a slice's spare places count too). A statement '..UptoSaid' is the law's where the arguments, and the package variables that the reading takes, are together of bulk at most 1048576: NARROWER than '..Said'. Prove '..Said' where nothing that the law and all that it calls make is longer than what came in: it says more and counts as full. Else prove '..UptoSaid'. A law counts once. -/
mutual
def uptoBulk {H : Type} : DataW H → Nat
  | .lit (.string bytes) => bytes.length + 1
  | .lit _ => 1
  | .nil => 1
  | .ptr d => uptoBulk d + 1
  | .slice elems spare => uptoBulkAll elems + uptoBulkAll spare + 1
  | .agg parts => uptoBulkAll parts + 1
  | .iface _ d => uptoBulk d + 1
  | .map entries => uptoBulkEntries entries + 1
  | .held _ => 1
def uptoBulkAll {H : Type} : List (DataW H) → Nat
  | [] => 0
  | d :: r => uptoBulk d + uptoBulkAll r
def uptoBulkEntries {H : Type} : List (Lit × DataW H) → Nat
  | [] => 0
  | x :: r => uptoBulkEntry x + uptoBulkEntries r
def uptoBulkEntry {H : Type} : Lit × DataW H → Nat
  | (.string bytes, d) => bytes.length + uptoBulk d + 1
  | (_, d) => uptoBulk d + 1
 end
def uptoSmall : (H : Type) → List (DataW H) → Bool := fun _ ds => decide (uptoBulkAll ds ≤ 1048576)
def OpenSpec.upto (s : _root_.Go.ChangeSpec) : _root_.Go.OpenSpec := { _root_.Go.OpenSpec.ofChange s with cond := some uptoSmall }

/-- 'countersignlaw08.DiskPlays', WHERE WHAT IT READS IS OF BULK AT MOST 1048576: true; the input reads as it did. -/
def diskPlaysUptoRow : OpenClaim := { program := "ytgfanlafbjbkaaa", sum := "d5e176d4902ce4ed6f7fbfe1e4d55e6b1785eae7eb6887acf48678cad1350d53", func := "countersign/countersignlaw08.DiskPlays", spec := "diskPlays", inPlace := ["internal/abi.NoEscape", "internal/bytealg.MakeNoZero"], unfollowed := true, recurses := true, apart := false, narrowed := true }
def DiskPlaysUptoSaid : Prop := diskPlaysUptoRow.holds Try.pinned (OpenSpec.upto diskPlaysSpec)

/-- 'countersignlaw08.DiskSafe', WHERE WHAT IT READS IS OF BULK AT MOST 1048576: true; the input reads as it did. -/
def diskSafeUptoRow : OpenClaim := { program := "ytgfanlafbjbkaaa", sum := "d5e176d4902ce4ed6f7fbfe1e4d55e6b1785eae7eb6887acf48678cad1350d53", func := "countersign/countersignlaw08.DiskSafe", spec := "diskSafe", inPlace := ["internal/abi.NoEscape", "internal/bytealg.MakeNoZero"], unfollowed := true, recurses := true, apart := false, narrowed := true }
def DiskSafeUptoSaid : Prop := diskSafeUptoRow.holds Try.pinned (OpenSpec.upto diskSafeSpec)

/-- 'countersignlaw08.DiskEnds', WHERE WHAT IT READS IS OF BULK AT MOST 1048576: true; the input reads as it did. -/
def diskEndsUptoRow : OpenClaim := { program := "ytgfanlafbjbkaaa", sum := "d5e176d4902ce4ed6f7fbfe1e4d55e6b1785eae7eb6887acf48678cad1350d53", func := "countersign/countersignlaw08.DiskEnds", spec := "diskEnds", inPlace := ["internal/abi.NoEscape", "internal/bytealg.MakeNoZero"], unfollowed := true, recurses := true, apart := false, narrowed := true }
def DiskEndsUptoSaid : Prop := diskEndsUptoRow.holds Try.pinned (OpenSpec.upto diskEndsSpec)

/-- 'countersignlaw08.DiskTorn', WHERE WHAT IT READS IS OF BULK AT MOST 1048576: true; the input reads as it did. -/
def diskTornUptoRow : OpenClaim := { program := "ytgfanlafbjbkaaa", sum := "d5e176d4902ce4ed6f7fbfe1e4d55e6b1785eae7eb6887acf48678cad1350d53", func := "countersign/countersignlaw08.DiskTorn", spec := "diskTorn", inPlace := ["internal/abi.NoEscape", "internal/bytealg.MakeNoZero"], unfollowed := true, recurses := true, apart := false, narrowed := true }
def DiskTornUptoSaid : Prop := diskTornUptoRow.holds Try.pinned (OpenSpec.upto diskTornSpec)

/-- 'countersignlaw08.DiskTurned', WHERE WHAT IT READS IS OF BULK AT MOST 1048576: true; the input reads as it did. -/
def diskTurnedUptoRow : OpenClaim := { program := "ytgfanlafbjbkaaa", sum := "d5e176d4902ce4ed6f7fbfe1e4d55e6b1785eae7eb6887acf48678cad1350d53", func := "countersign/countersignlaw08.DiskTurned", spec := "diskTurned", inPlace := ["internal/abi.NoEscape", "internal/bytealg.MakeNoZero"], unfollowed := true, recurses := true, apart := false, narrowed := true }
def DiskTurnedUptoSaid : Prop := diskTurnedUptoRow.holds Try.pinned (OpenSpec.upto diskTurnedSpec)

/-- 'countersignlaw09.SlotFrames', WHERE WHAT IT READS IS OF BULK AT MOST 1048576: true; the input reads as it did. -/
def slotFramesUptoRow : OpenClaim := { program := "ytgfanlafbjbkaaa", sum := "d5e176d4902ce4ed6f7fbfe1e4d55e6b1785eae7eb6887acf48678cad1350d53", func := "countersign/countersignlaw09.SlotFrames", spec := "slotFrames", inPlace := ["internal/abi.NoEscape", "internal/bytealg.MakeNoZero"], unfollowed := true, recurses := true, apart := false, narrowed := true }
def SlotFramesUptoSaid : Prop := slotFramesUptoRow.holds Try.pinned (OpenSpec.upto slotFramesSpec)

/-- 'countersignlaw09.SlotTorn', WHERE WHAT IT READS IS OF BULK AT MOST 1048576: true; the input reads as it did. -/
def slotTornUptoRow : OpenClaim := { program := "ytgfanlafbjbkaaa", sum := "d5e176d4902ce4ed6f7fbfe1e4d55e6b1785eae7eb6887acf48678cad1350d53", func := "countersign/countersignlaw09.SlotTorn", spec := "slotTorn", inPlace := ["internal/abi.NoEscape", "internal/bytealg.MakeNoZero"], unfollowed := true, recurses := true, apart := false, narrowed := true }
def SlotTornUptoSaid : Prop := slotTornUptoRow.holds Try.pinned (OpenSpec.upto slotTornSpec)

/-- 'countersignlaw09.SlotCounts', WHERE WHAT IT READS IS OF BULK AT MOST 1048576: true; the input reads as it did. -/
def slotCountsUptoRow : OpenClaim := { program := "ytgfanlafbjbkaaa", sum := "d5e176d4902ce4ed6f7fbfe1e4d55e6b1785eae7eb6887acf48678cad1350d53", func := "countersign/countersignlaw09.SlotCounts", spec := "slotCounts", inPlace := ["internal/abi.NoEscape", "internal/bytealg.MakeNoZero"], unfollowed := true, recurses := true, apart := false, narrowed := true }
def SlotCountsUptoSaid : Prop := slotCountsUptoRow.holds Try.pinned (OpenSpec.upto slotCountsSpec)

/-- 'countersignlaw09.SlotKeeps', WHERE WHAT IT READS IS OF BULK AT MOST 1048576: true; the input reads as it did. -/
def slotKeepsUptoRow : OpenClaim := { program := "ytgfanlafbjbkaaa", sum := "d5e176d4902ce4ed6f7fbfe1e4d55e6b1785eae7eb6887acf48678cad1350d53", func := "countersign/countersignlaw09.SlotKeeps", spec := "slotKeeps", inPlace := ["internal/abi.NoEscape", "internal/bytealg.MakeNoZero"], unfollowed := true, recurses := true, apart := false, narrowed := true }
def SlotKeepsUptoSaid : Prop := slotKeepsUptoRow.holds Try.pinned (OpenSpec.upto slotKeepsSpec)

/-- 'countersignlaw09.SlotPlays', WHERE WHAT IT READS IS OF BULK AT MOST 1048576: true; the input reads as it did. -/
def slotPlaysUptoRow : OpenClaim := { program := "ytgfanlafbjbkaaa", sum := "d5e176d4902ce4ed6f7fbfe1e4d55e6b1785eae7eb6887acf48678cad1350d53", func := "countersign/countersignlaw09.SlotPlays", spec := "slotPlays", inPlace := ["internal/abi.NoEscape", "internal/bytealg.MakeNoZero"], unfollowed := true, recurses := true, apart := false, narrowed := true }
def SlotPlaysUptoSaid : Prop := slotPlaysUptoRow.holds Try.pinned (OpenSpec.upto slotPlaysSpec)

end Rows
end Go.Proofs.Ytgfanlafbjbkaaa
