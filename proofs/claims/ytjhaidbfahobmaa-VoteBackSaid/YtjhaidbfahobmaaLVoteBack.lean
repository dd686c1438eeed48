/- Changed twice the members are as they were. -/
import Derived.Test.YtjhaidbfahobmaaRows
import Derived.Test.YtjhaidbfahobmaaHLVoteBack
import Derived.Test.YtjhaidbfahobmaaPvlaws
import Derived.Test.YtjhaidbfahobmaaPwfLen
set_option maxRecDepth 100000
set_option linter.unusedVariables false
namespace Go.Proofs.Ytjhaidbfahobmaa.voteBack
open Go.RowKit Go.ChangeShapes Go.Proofs.Ytjhaidbfahobmaa.S2
theorem own : ownKnob Try.prog.godebug = none := by kernel_rfl
theorem laidOut : laidOutB Try.prog = true := by kernel_rfl
theorem shape : skArgs Try.prog Try.f10.params.toList = some args_law16_VoteBack := by kernel_rfl
theorem many : Try.f10.params.toList.length = 2 := by kernel_rfl
theorem told (H : Type) (ds : List (DataW H)) (h : ds.length = Try.f10.params.toList.length) : Rows.voteBackSpec.fn H ds = { results := [.lit (.bool true)], args := ds } := by
  rw [many] at h
  match ds, h with
  | [d0, d1], _ => rfl
theorem plain (x : args_law16_VoteBack.T) (h : args_law16_VoteBack.wf Try.prog x) : F_law16_VoteBack x () = some (true, ()) := VoteBack_plain
theorem wit (os : Os) (H : Type) (enc : TypeId × Value → H) : ∃ (w : World) (tape : Tape) (i : Input), w.os = os ∧ (w.forCall tape i).Shaped Try.checked.prog ∧ i.vars = [] ∧ Input.okWide Try.checked.prog (w.forCall tape i) .any w.heap.size 10 i ∧
    Rows.voteBackSpec.pre6 enc Try.checked.prog Try.f10 Rows.voteBackRow.domain false (w.forCall tape i).memory i.args ∧ ({} : Assume).holds Try.checked.prog (lone (Frame.enter Try.checked.prog 10 i.args .normal) [] (w.forCall tape i)) :=
  ChangeSpec.witness6 (os := os) (f := 10) (fn := Try.f10) (s := Rows.voteBackSpec) (conds := Rows.voteBackRow.domain) (apart := false) (enc := enc) (C := Try.checked) false ⟨#[], #[.slice none 0 0, .int .u64 0], []⟩ 12 (by kernel_rfl) (by kernel_rfl) (by kernel_rfl) (by kernel_rfl)
theorem called (W : World) (vs : List Value) (x : args_law16_VoteBack.T) (hx : SV.RL W (fun _ => False) (fun _ => none) (args_law16_VoteBack.svs x) vs) (hw : args_law16_VoteBack.wf Try.checked.prog x) :
    Calls Try.checked.prog 10 vs.toArray W fun e W' => e = .returned (.bool true) ∧ Below W.heap.size W W' := law_calls fn_law16_VoteBack ok_law16_VoteBack hx (plain x hw)
theorem lifted (os : Os) (started : os.Started) (H : Type) (enc : TypeId × Value → H) :
    ReturnsInHanded {} Try.checked os 10 .any (Rows.voteBackSpec.pre6 enc Try.prog Try.f10 Rows.voteBackRow.domain false) (Rows.voteBackSpec.post enc Try.prog Try.f10 false true false false) :=
  law_lifted (C := Try.checked) (l := args_law16_VoteBack) (tb := 4) own started (by kernel_rfl) Try.func10
    (wit os H enc)
    rfl (told H) (by kernel_rfl) (by kernel_rfl) laidOut (by kernel_rfl) shape (by kernel_rfl)
    called
theorem over : Rows.voteBackRow.holds Try.pinned (OpenSpec.ofChange Rows.voteBackSpec) :=
  OpenClaim.holds_of_wide 10 Try.f10 rfl rfl rfl rfl rfl rfl rfl ⟨rfl, rfl, rfl, rfl, rfl⟩ rfl rfl rfl rfl rfl (by kernel_rfl) Try.func10 (by kernel_rfl)
    (of_decide_eq_true (by kernel_rfl)) (by unfold Func.isWrapper; first | (rw [if_pos (by decide +kernel)]; kernel_rfl) | (rw [if_neg (by decide +kernel)]; exact ⟨rfl, rfl⟩))
    (fun os started H enc _ => lifted os started H enc)
theorem proved : Rows.VoteBackSaid := over
end Go.Proofs.Ytjhaidbfahobmaa.voteBack
namespace Go.Proofs.Ytjhaidbfahobmaa
/-- The statement. -/
theorem voteBack_holds : Rows.VoteBackSaid := voteBack.proved
#print axioms voteBack_holds
end Go.Proofs.Ytjhaidbfahobmaa

