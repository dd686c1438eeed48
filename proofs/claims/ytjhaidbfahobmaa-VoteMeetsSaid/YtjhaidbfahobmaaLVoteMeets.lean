/- Two majorities meet. -/
import Derived.Test.YtjhaidbfahobmaaRows
import Derived.Test.YtjhaidbfahobmaaHLVoteMeets
import Derived.Test.YtjhaidbfahobmaaPvlaws
import Derived.Test.YtjhaidbfahobmaaPwfLen
set_option maxRecDepth 100000
set_option linter.unusedVariables false
namespace Go.Proofs.Ytjhaidbfahobmaa.voteMeets
open Go.RowKit Go.ChangeShapes Go.Proofs.Ytjhaidbfahobmaa.S2
theorem own : ownKnob Try.prog.godebug = none := by kernel_rfl
theorem laidOut : laidOutB Try.prog = true := by kernel_rfl
theorem shape : skArgs Try.prog Try.f9.params.toList = some args_law16_VoteMeets := by kernel_rfl
theorem many : Try.f9.params.toList.length = 3 := by kernel_rfl
theorem told (H : Type) (ds : List (DataW H)) (h : ds.length = Try.f9.params.toList.length) : Rows.voteMeetsSpec.fn H ds = { results := [.lit (.bool true)], args := ds } := by
  rw [many] at h
  match ds, h with
  | [d0, d1, d2], _ => rfl
theorem plain (x : args_law16_VoteMeets.T) (h : args_law16_VoteMeets.wf Try.prog x) : F_law16_VoteMeets x () = some (true, ()) := by obtain ⟨m, id, ⟨v, w, _⟩, _⟩ := x; obtain ⟨hm, hi, ⟨hv, hw, _⟩, _⟩ := h; have hv := few8 (wf_slc hv (n := 8) (by kernel_rfl)).1; have hw := few8 (wf_slc hw (n := 8) (by kernel_rfl)).1; exact VoteMeets_plain hv hw
theorem wit (os : Os) (H : Type) (enc : TypeId × Value → H) : ∃ (w : World) (tape : Tape) (i : Input), w.os = os ∧ (w.forCall tape i).Shaped Try.checked.prog ∧ i.vars = [] ∧ Input.okWide Try.checked.prog (w.forCall tape i) .any w.heap.size 9 i ∧
    Rows.voteMeetsSpec.pre6 enc Try.checked.prog Try.f9 Rows.voteMeetsRow.domain false (w.forCall tape i).memory i.args ∧ ({} : Assume).holds Try.checked.prog (lone (Frame.enter Try.checked.prog 9 i.args .normal) [] (w.forCall tape i)) :=
  ChangeSpec.witness6 (os := os) (f := 9) (fn := Try.f9) (s := Rows.voteMeetsSpec) (conds := Rows.voteMeetsRow.domain) (apart := false) (enc := enc) (C := Try.checked) false ⟨#[], #[.slice none 0 0, .int .u64 0, .agg #[.slice none 0 0, .slice none 0 0]], []⟩ 12 (by kernel_rfl) (by kernel_rfl) (by kernel_rfl) (by kernel_rfl)
theorem called (W : World) (vs : List Value) (x : args_law16_VoteMeets.T) (hx : SV.RL W (fun _ => False) (fun _ => none) (args_law16_VoteMeets.svs x) vs) (hw : args_law16_VoteMeets.wf Try.checked.prog x) :
    Calls Try.checked.prog 9 vs.toArray W fun e W' => e = .returned (.bool true) ∧ Below W.heap.size W W' := law_calls fn_law16_VoteMeets ok_law16_VoteMeets hx (plain x hw)
theorem lifted (os : Os) (started : os.Started) (H : Type) (enc : TypeId × Value → H) :
    ReturnsInHanded {} Try.checked os 9 .any (Rows.voteMeetsSpec.pre6 enc Try.prog Try.f9 Rows.voteMeetsRow.domain false) (Rows.voteMeetsSpec.post enc Try.prog Try.f9 false true false false) :=
  law_lifted (C := Try.checked) (l := args_law16_VoteMeets) (tb := 4) own started (by kernel_rfl) Try.func9
    (wit os H enc)
    rfl (told H) (by kernel_rfl) (by kernel_rfl) laidOut (by kernel_rfl) shape (by kernel_rfl)
    called
theorem over : Rows.voteMeetsRow.holds Try.pinned (OpenSpec.ofChange Rows.voteMeetsSpec) :=
  OpenClaim.holds_of_wide 9 Try.f9 rfl rfl rfl rfl rfl rfl rfl ⟨rfl, rfl, rfl, rfl, rfl⟩ rfl rfl rfl rfl rfl (by kernel_rfl) Try.func9 (by kernel_rfl)
    (of_decide_eq_true (by kernel_rfl)) (by unfold Func.isWrapper; first | (rw [if_pos (by decide +kernel)]; kernel_rfl) | (rw [if_neg (by decide +kernel)]; exact ⟨rfl, rfl⟩))
    (fun os started H enc _ => lifted os started H enc)
theorem proved : Rows.VoteMeetsSaid := over
end Go.Proofs.Ytjhaidbfahobmaa.voteMeets
namespace Go.Proofs.Ytjhaidbfahobmaa
/-- The statement. -/
theorem voteMeets_holds : Rows.VoteMeetsSaid := voteMeets.proved
#print axioms voteMeets_holds
end Go.Proofs.Ytjhaidbfahobmaa

