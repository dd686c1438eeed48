/-
  No cell of these rows narrows 'for every input' (looked for: loops, veiled, ifaces, maps, wideKeys, modest, calm, conditions, laid).
  DERIVED. THE GIVEN ROWS OF THIS SEAT. 9 by the template 'for every input the law returns true; each argument reads behind the call as it read before'; 0 by the template 'total and deterministic' (their statements: YtjhaidbfahobmaaTotals.lean).
  GIVEN WITH THE SEED: the statements are not yours to turn. If you find one false, say at which input.
  Laid BY PROGRAM, IN A SANDBOX (cutbox-rows.mjs): the forced cells as the released guide's own fill.sh prints them over the translation 8d20241c3c8b9d8e… (all of the seat's roots in one cut). By AI agents, Wed Nov 11 2026. No macro, syntax, notation, axiom, sorry.
-/
import Derived.Test.YtjhaidbfahobmaaChecked
import GoSem.Claim
import GoSem.ClaimJoined
import GoSem.ClaimMapViews
import Derived.JoinedTies
import Derived.KernelRfl
namespace Go.Proofs.Ytjhaidbfahobmaa
/- THE CELL 'sum', in the pinned program and in every row, IS THE sha256 OF THE DUMP (.gsa) THAT YtjhaidbfahobmaaProg.lean LOADS. Nothing in Lean hashes anything: it is a label: what it is worth is what the hold of that sum in a sandbox is worth. -/
noncomputable def Try.pinned : Pinned := { name := "ytjhaidbfahobmaa", sum := "8d20241c3c8b9d8e85fd03013844f3ac0a02507525ef8340858f11fd19a56b4e", checked := Try.checked }
namespace Rows
def none {H : Type} : Left H := { results := [], args := [] }

/-- 'countersignlaw17.ReplTells': WHATEVER THE INPUT: true; the input reads as it did. -/
def replTellsSpec : ChangeSpec := { name := "replTells", fn := fun _ => fun
  | [d1, d2, d3] => { results := [.lit (.bool true)], args := [d1, d2, d3] }
  | _ => none }
def replTellsRow : OpenClaim := { program := "ytjhaidbfahobmaa", sum := "8d20241c3c8b9d8e85fd03013844f3ac0a02507525ef8340858f11fd19a56b4e", func := "countersign/countersignlaw17.ReplTells", spec := "replTells", unfollowed := true, recurses := true, apart := false }
def ReplTellsSaid : Prop := replTellsRow.holds Try.pinned (OpenSpec.ofChange replTellsSpec)

/-- ITS FALSE NEIGHBOUR: 'it returns false'. Refute it at one input. -/
def replTellsWrong : ChangeSpec := { name := "replTells", fn := fun _ => fun
  | [d1, d2, d3] => { results := [.lit (.bool false)], args := [d1, d2, d3] }
  | _ => none }
def ReplTellsWrongFalsely : Prop := replTellsRow.holds Try.pinned (OpenSpec.ofChange replTellsWrong)

/-- 'countersignlaw17.ReplSure': WHATEVER THE INPUT: true; the input reads as it did. -/
def replSureSpec : ChangeSpec := { name := "replSure", fn := fun _ => fun
  | [d1, d2, d3] => { results := [.lit (.bool true)], args := [d1, d2, d3] }
  | _ => none }
def replSureRow : OpenClaim := { program := "ytjhaidbfahobmaa", sum := "8d20241c3c8b9d8e85fd03013844f3ac0a02507525ef8340858f11fd19a56b4e", func := "countersign/countersignlaw17.ReplSure", spec := "replSure", unfollowed := true, recurses := true, apart := false }
def ReplSureSaid : Prop := replSureRow.holds Try.pinned (OpenSpec.ofChange replSureSpec)

/-- ITS FALSE NEIGHBOUR: 'it returns false'. Refute it at one input. -/
def replSureWrong : ChangeSpec := { name := "replSure", fn := fun _ => fun
  | [d1, d2, d3] => { results := [.lit (.bool false)], args := [d1, d2, d3] }
  | _ => none }
def ReplSureWrongFalsely : Prop := replSureRow.holds Try.pinned (OpenSpec.ofChange replSureWrong)

/-- 'countersignlaw17.ReplBack': WHATEVER THE INPUT: true; the input reads as it did. -/
def replBackSpec : ChangeSpec := { name := "replBack", fn := fun _ => fun
  | [d1, d2] => { results := [.lit (.bool true)], args := [d1, d2] }
  | _ => none }
def replBackRow : OpenClaim := { program := "ytjhaidbfahobmaa", sum := "8d20241c3c8b9d8e85fd03013844f3ac0a02507525ef8340858f11fd19a56b4e", func := "countersign/countersignlaw17.ReplBack", spec := "replBack", unfollowed := true, recurses := true, apart := false }
def ReplBackSaid : Prop := replBackRow.holds Try.pinned (OpenSpec.ofChange replBackSpec)

/-- ITS FALSE NEIGHBOUR: 'it returns false'. Refute it at one input. -/
def replBackWrong : ChangeSpec := { name := "replBack", fn := fun _ => fun
  | [d1, d2] => { results := [.lit (.bool false)], args := [d1, d2] }
  | _ => none }
def ReplBackWrongFalsely : Prop := replBackRow.holds Try.pinned (OpenSpec.ofChange replBackWrong)

/-- 'countersignlaw16.VoteAsks': WHATEVER THE INPUT: true; the input reads as it did. -/
def voteAsksSpec : ChangeSpec := { name := "voteAsks", fn := fun _ => fun
  | [d1, d2, d3] => { results := [.lit (.bool true)], args := [d1, d2, d3] }
  | _ => none }
def voteAsksRow : OpenClaim := { program := "ytjhaidbfahobmaa", sum := "8d20241c3c8b9d8e85fd03013844f3ac0a02507525ef8340858f11fd19a56b4e", func := "countersign/countersignlaw16.VoteAsks", spec := "voteAsks", unfollowed := true, recurses := true, apart := false }
def VoteAsksSaid : Prop := voteAsksRow.holds Try.pinned (OpenSpec.ofChange voteAsksSpec)

/-- ITS FALSE NEIGHBOUR: 'it returns false'. Refute it at one input. -/
def voteAsksWrong : ChangeSpec := { name := "voteAsks", fn := fun _ => fun
  | [d1, d2, d3] => { results := [.lit (.bool false)], args := [d1, d2, d3] }
  | _ => none }
def VoteAsksWrongFalsely : Prop := voteAsksRow.holds Try.pinned (OpenSpec.ofChange voteAsksWrong)

/-- 'countersignlaw16.VoteMembers': WHATEVER THE INPUT: true; the input reads as it did. -/
def voteMembersSpec : ChangeSpec := { name := "voteMembers", fn := fun _ => fun
  | [d1, d2, d3] => { results := [.lit (.bool true)], args := [d1, d2, d3] }
  | _ => none }
def voteMembersRow : OpenClaim := { program := "ytjhaidbfahobmaa", sum := "8d20241c3c8b9d8e85fd03013844f3ac0a02507525ef8340858f11fd19a56b4e", func := "countersign/countersignlaw16.VoteMembers", spec := "voteMembers", unfollowed := true, recurses := true, apart := false }
def VoteMembersSaid : Prop := voteMembersRow.holds Try.pinned (OpenSpec.ofChange voteMembersSpec)

/-- ITS FALSE NEIGHBOUR: 'it returns false'. Refute it at one input. -/
def voteMembersWrong : ChangeSpec := { name := "voteMembers", fn := fun _ => fun
  | [d1, d2, d3] => { results := [.lit (.bool false)], args := [d1, d2, d3] }
  | _ => none }
def VoteMembersWrongFalsely : Prop := voteMembersRow.holds Try.pinned (OpenSpec.ofChange voteMembersWrong)

/-- 'countersignlaw16.VoteOnce': WHATEVER THE INPUT: true; the input reads as it did. -/
def voteOnceSpec : ChangeSpec := { name := "voteOnce", fn := fun _ => fun
  | [d1, d2, d3] => { results := [.lit (.bool true)], args := [d1, d2, d3] }
  | _ => none }
def voteOnceRow : OpenClaim := { program := "ytjhaidbfahobmaa", sum := "8d20241c3c8b9d8e85fd03013844f3ac0a02507525ef8340858f11fd19a56b4e", func := "countersign/countersignlaw16.VoteOnce", spec := "voteOnce", unfollowed := true, recurses := true, apart := false }
def VoteOnceSaid : Prop := voteOnceRow.holds Try.pinned (OpenSpec.ofChange voteOnceSpec)

/-- ITS FALSE NEIGHBOUR: 'it returns false'. Refute it at one input. -/
def voteOnceWrong : ChangeSpec := { name := "voteOnce", fn := fun _ => fun
  | [d1, d2, d3] => { results := [.lit (.bool false)], args := [d1, d2, d3] }
  | _ => none }
def VoteOnceWrongFalsely : Prop := voteOnceRow.holds Try.pinned (OpenSpec.ofChange voteOnceWrong)

/-- 'countersignlaw16.VoteMeets': WHATEVER THE INPUT: true; the input reads as it did. -/
def voteMeetsSpec : ChangeSpec := { name := "voteMeets", fn := fun _ => fun
  | [d1, d2, d3] => { results := [.lit (.bool true)], args := [d1, d2, d3] }
  | _ => none }
def voteMeetsRow : OpenClaim := { program := "ytjhaidbfahobmaa", sum := "8d20241c3c8b9d8e85fd03013844f3ac0a02507525ef8340858f11fd19a56b4e", func := "countersign/countersignlaw16.VoteMeets", spec := "voteMeets", unfollowed := true, recurses := true, apart := false }
def VoteMeetsSaid : Prop := voteMeetsRow.holds Try.pinned (OpenSpec.ofChange voteMeetsSpec)

/-- ITS FALSE NEIGHBOUR: 'it returns false'. Refute it at one input. -/
def voteMeetsWrong : ChangeSpec := { name := "voteMeets", fn := fun _ => fun
  | [d1, d2, d3] => { results := [.lit (.bool false)], args := [d1, d2, d3] }
  | _ => none }
def VoteMeetsWrongFalsely : Prop := voteMeetsRow.holds Try.pinned (OpenSpec.ofChange voteMeetsWrong)

/-- 'countersignlaw16.VoteBack': WHATEVER THE INPUT: true; the input reads as it did. -/
def voteBackSpec : ChangeSpec := { name := "voteBack", fn := fun _ => fun
  | [d1, d2] => { results := [.lit (.bool true)], args := [d1, d2] }
  | _ => none }
def voteBackRow : OpenClaim := { program := "ytjhaidbfahobmaa", sum := "8d20241c3c8b9d8e85fd03013844f3ac0a02507525ef8340858f11fd19a56b4e", func := "countersign/countersignlaw16.VoteBack", spec := "voteBack", unfollowed := true, recurses := true, apart := false }
def VoteBackSaid : Prop := voteBackRow.holds Try.pinned (OpenSpec.ofChange voteBackSpec)

/-- ITS FALSE NEIGHBOUR: 'it returns false'. Refute it at one input. -/
def voteBackWrong : ChangeSpec := { name := "voteBack", fn := fun _ => fun
  | [d1, d2] => { results := [.lit (.bool false)], args := [d1, d2] }
  | _ => none }
def VoteBackWrongFalsely : Prop := voteBackRow.holds Try.pinned (OpenSpec.ofChange voteBackWrong)

/-- 'countersignlaw17.ReplReaches': WHATEVER THE INPUT: true; the input reads as it did. -/
def replReachesSpec : ChangeSpec := { name := "replReaches", fn := fun _ => fun
  | [d1, d2, d3] => { results := [.lit (.bool true)], args := [d1, d2, d3] }
  | _ => none }
def replReachesRow : OpenClaim := { program := "ytjhaidbfahobmaa", sum := "8d20241c3c8b9d8e85fd03013844f3ac0a02507525ef8340858f11fd19a56b4e", func := "countersign/countersignlaw17.ReplReaches", spec := "replReaches", unfollowed := true, recurses := true, apart := false }
def ReplReachesSaid : Prop := replReachesRow.holds Try.pinned (OpenSpec.ofChange replReachesSpec)

/-- ITS FALSE NEIGHBOUR: 'it returns false'. Refute it at one input. -/
def replReachesWrong : ChangeSpec := { name := "replReaches", fn := fun _ => fun
  | [d1, d2, d3] => { results := [.lit (.bool false)], args := [d1, d2, d3] }
  | _ => none }
def ReplReachesWrongFalsely : Prop := replReachesRow.holds Try.pinned (OpenSpec.ofChange replReachesWrong)

/- THE SECOND FORM. 'bulk': how many values and letters a reading holds, each counted each time it is reached (what is shared counts as often as it is met; a slice's spare places count too). A statement '..UptoSaid' is the law's where the arguments, and the package variables that the reading takes, are together of bulk at most 1048576: NARROWER than '..Said'. Prove '..Said' where nothing that the law and all that it calls make is longer than what came in: it says more and counts as full. Else prove '..UptoSaid'. A law counts once. -/
mutual
def uptoBulk {H : Type} : DataW H → Nat
  | .lit (.string bytes) => bytes.length + 1
  | .lit _ => 1
  | .nil => 1
  | .ptr d => uptoBulk d + 1
  | .slice elems spare => uptoBulkAll elems + uptoBulkAll spare + 1
  | .agg parts => uptoBulkAll parts + 1
  | .iface _ d => uptoBulk d + 1
  | .map entries => uptoBulkEntries entries + 1
  | .held _ => 1
def uptoBulkAll {H : Type} : List (DataW H) → Nat
  | [] => 0
  | d :: r => uptoBulk d + uptoBulkAll r
def uptoBulkEntries {H : Type} : List (Lit × DataW H) → Nat
  | [] => 0
  | x :: r => uptoBulkEntry x + uptoBulkEntries r
def uptoBulkEntry {H : Type} : Lit × DataW H → Nat
  | (.string bytes, d) => bytes.length + uptoBulk d + 1
  | (_, d) => uptoBulk d + 1
 end
def uptoSmall : (H : Type) → List (DataW H) → Bool := fun _ ds => decide (uptoBulkAll ds ≤ 1048576)
def OpenSpec.upto (s : _root_.Go.ChangeSpec) : _root_.Go.OpenSpec := { _root_.Go.OpenSpec.ofChange s with cond := some uptoSmall }

/-- 'countersignlaw17.ReplTells', WHERE WHAT IT READS IS OF BULK AT MOST 1048576: true; the input reads as it did. -/
def replTellsUptoRow : OpenClaim := { program := "ytjhaidbfahobmaa", sum := "8d20241c3c8b9d8e85fd03013844f3ac0a02507525ef8340858f11fd19a56b4e", func := "countersign/countersignlaw17.ReplTells", spec := "replTells", unfollowed := true, recurses := true, apart := false, narrowed := true }
def ReplTellsUptoSaid : Prop := replTellsUptoRow.holds Try.pinned (OpenSpec.upto replTellsSpec)

/-- 'countersignlaw17.ReplSure', WHERE WHAT IT READS IS OF BULK AT MOST 1048576: true; the input reads as it did. -/
def replSureUptoRow : OpenClaim := { program := "ytjhaidbfahobmaa", sum := "8d20241c3c8b9d8e85fd03013844f3ac0a02507525ef8340858f11fd19a56b4e", func := "countersign/countersignlaw17.ReplSure", spec := "replSure", unfollowed := true, recurses := true, apart := false, narrowed := true }
def ReplSureUptoSaid : Prop := replSureUptoRow.holds Try.pinned (OpenSpec.upto replSureSpec)

/-- 'countersignlaw17.ReplBack', WHERE WHAT IT READS IS OF BULK AT MOST 1048576: true; the input reads as it did. -/
def replBackUptoRow : OpenClaim := { program := "ytjhaidbfahobmaa", sum := "8d20241c3c8b9d8e85fd03013844f3ac0a02507525ef8340858f11fd19a56b4e", func := "countersign/countersignlaw17.ReplBack", spec := "replBack", unfollowed := true, recurses := true, apart := false, narrowed := true }
def ReplBackUptoSaid : Prop := replBackUptoRow.holds Try.pinned (OpenSpec.upto replBackSpec)

/-- 'countersignlaw16.VoteAsks', WHERE WHAT IT READS IS OF BULK AT MOST 1048576: true; the input reads as it did. -/
def voteAsksUptoRow : OpenClaim := { program := "ytjhaidbfahobmaa", sum := "8d20241c3c8b9d8e85fd03013844f3ac0a02507525ef8340858f11fd19a56b4e", func := "countersign/countersignlaw16.VoteAsks", spec := "voteAsks", unfollowed := true, recurses := true, apart := false, narrowed := true }
def VoteAsksUptoSaid : Prop := voteAsksUptoRow.holds Try.pinned (OpenSpec.upto voteAsksSpec)

/-- 'countersignlaw16.VoteMembers', WHERE WHAT IT READS IS OF BULK AT MOST 1048576: true; the input reads as it did. -/
def voteMembersUptoRow : OpenClaim := { program := "ytjhaidbfahobmaa", sum := "8d20241c3c8b9d8e85fd03013844f3ac0a02507525ef8340858f11fd19a56b4e", func := "countersign/countersignlaw16.VoteMembers", spec := "voteMembers", unfollowed := true, recurses := true, apart := false, narrowed := true }
def VoteMembersUptoSaid : Prop := voteMembersUptoRow.holds Try.pinned (OpenSpec.upto voteMembersSpec)

/-- 'countersignlaw16.VoteOnce', WHERE WHAT IT READS IS OF BULK AT MOST 1048576: true; the input reads as it did. -/
def voteOnceUptoRow : OpenClaim := { program := "ytjhaidbfahobmaa", sum := "8d20241c3c8b9d8e85fd03013844f3ac0a02507525ef8340858f11fd19a56b4e", func := "countersign/countersignlaw16.VoteOnce", spec := "voteOnce", unfollowed := true, recurses := true, apart := false, narrowed := true }
def VoteOnceUptoSaid : Prop := voteOnceUptoRow.holds Try.pinned (OpenSpec.upto voteOnceSpec)

/-- 'countersignlaw16.VoteMeets', WHERE WHAT IT READS IS OF BULK AT MOST 1048576: true; the input reads as it did. -/
def voteMeetsUptoRow : OpenClaim := { program := "ytjhaidbfahobmaa", sum := "8d20241c3c8b9d8e85fd03013844f3ac0a02507525ef8340858f11fd19a56b4e", func := "countersign/countersignlaw16.VoteMeets", spec := "voteMeets", unfollowed := true, recurses := true, apart := false, narrowed := true }
def VoteMeetsUptoSaid : Prop := voteMeetsUptoRow.holds Try.pinned (OpenSpec.upto voteMeetsSpec)

/-- 'countersignlaw16.VoteBack', WHERE WHAT IT READS IS OF BULK AT MOST 1048576: true; the input reads as it did. -/
def voteBackUptoRow : OpenClaim := { program := "ytjhaidbfahobmaa", sum := "8d20241c3c8b9d8e85fd03013844f3ac0a02507525ef8340858f11fd19a56b4e", func := "countersign/countersignlaw16.VoteBack", spec := "voteBack", unfollowed := true, recurses := true, apart := false, narrowed := true }
def VoteBackUptoSaid : Prop := voteBackUptoRow.holds Try.pinned (OpenSpec.upto voteBackSpec)

/-- 'countersignlaw17.ReplReaches', WHERE WHAT IT READS IS OF BULK AT MOST 1048576: true; the input reads as it did. -/
def replReachesUptoRow : OpenClaim := { program := "ytjhaidbfahobmaa", sum := "8d20241c3c8b9d8e85fd03013844f3ac0a02507525ef8340858f11fd19a56b4e", func := "countersign/countersignlaw17.ReplReaches", spec := "replReaches", unfollowed := true, recurses := true, apart := false, narrowed := true }
def ReplReachesUptoSaid : Prop := replReachesUptoRow.holds Try.pinned (OpenSpec.upto replReachesSpec)

end Rows
end Go.Proofs.Ytjhaidbfahobmaa
