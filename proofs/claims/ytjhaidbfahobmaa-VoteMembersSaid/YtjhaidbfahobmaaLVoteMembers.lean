/- Which votes are most, which members there are. -/
import Derived.Test.YtjhaidbfahobmaaRows
import Derived.Test.YtjhaidbfahobmaaHLVoteMembers
import Derived.Test.YtjhaidbfahobmaaPvlaws
import Derived.Test.YtjhaidbfahobmaaPwfLen
set_option maxRecDepth 100000
set_option linter.unusedVariables false
namespace Go.Proofs.Ytjhaidbfahobmaa.voteMembers
open Go.RowKit Go.ChangeShapes Go.Proofs.Ytjhaidbfahobmaa.S2
theorem own : ownKnob Try.prog.godebug = none := by kernel_rfl
theorem laidOut : laidOutB Try.prog = true := by kernel_rfl
theorem shape : skArgs Try.prog Try.f7.params.toList = some args_law16_VoteMembers := by kernel_rfl
theorem many : Try.f7.params.toList.length = 3 := by kernel_rfl
theorem told (H : Type) (ds : List (DataW H)) (h : ds.length = Try.f7.params.toList.length) : Rows.voteMembersSpec.fn H ds = { results := [.lit (.bool true)], args := ds } := by
  rw [many] at h
  match ds, h with
  | [d0, d1, d2], _ => rfl
theorem plain (x : args_law16_VoteMembers.T) (h : args_law16_VoteMembers.wf Try.prog x) : F_law16_VoteMembers x () = some (true, ()) := by obtain ⟨m, v, id, _⟩ := x; obtain ⟨hm, hv, hi, _⟩ := h; have hv := few8 (wf_slc hv (n := 8) (by kernel_rfl)).1; exact VoteMembers_plain hv
theorem wit (os : Os) (H : Type) (enc : TypeId × Value → H) : ∃ (w : World) (tape : Tape) (i : Input), w.os = os ∧ (w.forCall tape i).Shaped Try.checked.prog ∧ i.vars = [] ∧ Input.okWide Try.checked.prog (w.forCall tape i) .any w.heap.size 7 i ∧
    Rows.voteMembersSpec.pre6 enc Try.checked.prog Try.f7 Rows.voteMembersRow.domain false (w.forCall tape i).memory i.args ∧ ({} : Assume).holds Try.checked.prog (lone (Frame.enter Try.checked.prog 7 i.args .normal) [] (w.forCall tape i)) :=
  ChangeSpec.witness6 (os := os) (f := 7) (fn := Try.f7) (s := Rows.voteMembersSpec) (conds := Rows.voteMembersRow.domain) (apart := false) (enc := enc) (C := Try.checked) false ⟨#[], #[.slice none 0 0, .slice none 0 0, .int .u64 0], []⟩ 12 (by kernel_rfl) (by kernel_rfl) (by kernel_rfl) (by kernel_rfl)
theorem called (W : World) (vs : List Value) (x : args_law16_VoteMembers.T) (hx : SV.RL W (fun _ => False) (fun _ => none) (args_law16_VoteMembers.svs x) vs) (hw : args_law16_VoteMembers.wf Try.checked.prog x) :
    Calls Try.checked.prog 7 vs.toArray W fun e W' => e = .returned (.bool true) ∧ Below W.heap.size W W' := law_calls fn_law16_VoteMembers ok_law16_VoteMembers hx (plain x hw)
theorem lifted (os : Os) (started : os.Started) (H : Type) (enc : TypeId × Value → H) :
    ReturnsInHanded {} Try.checked os 7 .any (Rows.voteMembersSpec.pre6 enc Try.prog Try.f7 Rows.voteMembersRow.domain false) (Rows.voteMembersSpec.post enc Try.prog Try.f7 false true false false) :=
  law_lifted (C := Try.checked) (l := args_law16_VoteMembers) (tb := 4) own started (by kernel_rfl) Try.func7
    (wit os H enc)
    rfl (told H) (by kernel_rfl) (by kernel_rfl) laidOut (by kernel_rfl) shape (by kernel_rfl)
    called
theorem over : Rows.voteMembersRow.holds Try.pinned (OpenSpec.ofChange Rows.voteMembersSpec) :=
  OpenClaim.holds_of_wide 7 Try.f7 rfl rfl rfl rfl rfl rfl rfl ⟨rfl, rfl, rfl, rfl, rfl⟩ rfl rfl rfl rfl rfl (by kernel_rfl) Try.func7 (by kernel_rfl)
    (of_decide_eq_true (by kernel_rfl)) (by unfold Func.isWrapper; first | (rw [if_pos (by decide +kernel)]; kernel_rfl) | (rw [if_neg (by decide +kernel)]; exact ⟨rfl, rfl⟩))
    (fun os started H enc _ => lifted os started H enc)
theorem proved : Rows.VoteMembersSaid := over
end Go.Proofs.Ytjhaidbfahobmaa.voteMembers
namespace Go.Proofs.Ytjhaidbfahobmaa
/-- The statement. -/
theorem voteMembers_holds : Rows.VoteMembersSaid := voteMembers.proved
#print axioms voteMembers_holds
end Go.Proofs.Ytjhaidbfahobmaa

