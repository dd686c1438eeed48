/- One vote in a term. -/
import Derived.Test.YtjhaidbfahobmaaRows
import Derived.Test.YtjhaidbfahobmaaHLVoteOnce
import Derived.Test.YtjhaidbfahobmaaPvonce
import Derived.Test.YtjhaidbfahobmaaPwfLen
set_option maxRecDepth 100000
set_option linter.unusedVariables false
namespace Go.Proofs.Ytjhaidbfahobmaa.voteOnce
open Go.RowKit Go.ChangeShapes Go.Proofs.Ytjhaidbfahobmaa.S2
theorem own : ownKnob Try.prog.godebug = none := by kernel_rfl
theorem laidOut : laidOutB Try.prog = true := by kernel_rfl
theorem shape : skArgs Try.prog Try.f8.params.toList = some args_law16_VoteOnce := by kernel_rfl
theorem many : Try.f8.params.toList.length = 3 := by kernel_rfl
theorem told (H : Type) (ds : List (DataW H)) (h : ds.length = Try.f8.params.toList.length) : Rows.voteOnceSpec.fn H ds = { results := [.lit (.bool true)], args := ds } := by
  rw [many] at h
  match ds, h with
  | [d0, d1, d2], _ => rfl
theorem plain (x : args_law16_VoteOnce.T) (h : args_law16_VoteOnce.wf Try.prog x) : F_law16_VoteOnce x () = some (true, ()) := by obtain ⟨⟨ht, hv, _⟩, ⟨hb, hu, hx, _⟩, hA, _⟩ := h; have hx := few32 (wf_slc hx (n := 32) (by kernel_rfl)).1; have hA := (wf_slc hA (n := 32) (by kernel_rfl)).2; exact VoteOnce_plain (wf_u64 hb) hx (fun a ha => by obtain ⟨j, hj, rfl⟩ := List.mem_iff_getElem.1 ha; exact wf_u64 (hA j hj).2.1)
theorem wit (os : Os) (H : Type) (enc : TypeId × Value → H) : ∃ (w : World) (tape : Tape) (i : Input), w.os = os ∧ (w.forCall tape i).Shaped Try.checked.prog ∧ i.vars = [] ∧ Input.okWide Try.checked.prog (w.forCall tape i) .any w.heap.size 8 i ∧
    Rows.voteOnceSpec.pre6 enc Try.checked.prog Try.f8 Rows.voteOnceRow.domain false (w.forCall tape i).memory i.args ∧ ({} : Assume).holds Try.checked.prog (lone (Frame.enter Try.checked.prog 8 i.args .normal) [] (w.forCall tape i)) :=
  ChangeSpec.witness6 (os := os) (f := 8) (fn := Try.f8) (s := Rows.voteOnceSpec) (conds := Rows.voteOnceRow.domain) (apart := false) (enc := enc) (C := Try.checked) false ⟨#[], #[.agg #[.int .u64 0, .int .u64 0], .agg #[.int .u64 0, .int .u64 0, .slice none 0 0], .slice none 0 0], []⟩ 12 (by kernel_rfl) (by kernel_rfl) (by kernel_rfl) (by kernel_rfl)
theorem called (W : World) (vs : List Value) (x : args_law16_VoteOnce.T) (hx : SV.RL W (fun _ => False) (fun _ => none) (args_law16_VoteOnce.svs x) vs) (hw : args_law16_VoteOnce.wf Try.checked.prog x) :
    Calls Try.checked.prog 8 vs.toArray W fun e W' => e = .returned (.bool true) ∧ Below W.heap.size W W' := law_calls fn_law16_VoteOnce ok_law16_VoteOnce hx (plain x hw)
theorem lifted (os : Os) (started : os.Started) (H : Type) (enc : TypeId × Value → H) :
    ReturnsInHanded {} Try.checked os 8 .any (Rows.voteOnceSpec.pre6 enc Try.prog Try.f8 Rows.voteOnceRow.domain false) (Rows.voteOnceSpec.post enc Try.prog Try.f8 false true false false) :=
  law_lifted (C := Try.checked) (l := args_law16_VoteOnce) (tb := 4) own started (by kernel_rfl) Try.func8
    (wit os H enc)
    rfl (told H) (by kernel_rfl) (by kernel_rfl) laidOut (by kernel_rfl) shape (by kernel_rfl)
    called
theorem over : Rows.voteOnceRow.holds Try.pinned (OpenSpec.ofChange Rows.voteOnceSpec) :=
  OpenClaim.holds_of_wide 8 Try.f8 rfl rfl rfl rfl rfl rfl rfl ⟨rfl, rfl, rfl, rfl, rfl⟩ rfl rfl rfl rfl rfl (by kernel_rfl) Try.func8 (by kernel_rfl)
    (of_decide_eq_true (by kernel_rfl)) (by unfold Func.isWrapper; first | (rw [if_pos (by decide +kernel)]; kernel_rfl) | (rw [if_neg (by decide +kernel)]; exact ⟨rfl, rfl⟩))
    (fun os started H enc _ => lifted os started H enc)
theorem proved : Rows.VoteOnceSaid := over
end Go.Proofs.Ytjhaidbfahobmaa.voteOnce
namespace Go.Proofs.Ytjhaidbfahobmaa
/-- The statement. -/
theorem voteOnce_holds : Rows.VoteOnceSaid := voteOnce.proved
#print axioms voteOnce_holds
end Go.Proofs.Ytjhaidbfahobmaa

