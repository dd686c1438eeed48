/- Whether any voter votes, as the document says. -/
import Derived.Test.YtjhaidbfahobmaaRows
import Derived.Test.YtjhaidbfahobmaaHLVoteAsks
import Derived.Test.YtjhaidbfahobmaaPvlaws
import Derived.Test.YtjhaidbfahobmaaPwfLen
set_option maxRecDepth 100000
set_option linter.unusedVariables false
namespace Go.Proofs.Ytjhaidbfahobmaa.voteAsks
open Go.RowKit Go.ChangeShapes Go.Proofs.Ytjhaidbfahobmaa.S2
theorem own : ownKnob Try.prog.godebug = none := by kernel_rfl
theorem laidOut : laidOutB Try.prog = true := by kernel_rfl
theorem shape : skArgs Try.prog Try.f6.params.toList = some args_law16_VoteAsks := by kernel_rfl
theorem many : Try.f6.params.toList.length = 3 := by kernel_rfl
theorem told (H : Type) (ds : List (DataW H)) (h : ds.length = Try.f6.params.toList.length) : Rows.voteAsksSpec.fn H ds = { results := [.lit (.bool true)], args := ds } := by
  rw [many] at h
  match ds, h with
  | [d0, d1, d2], _ => rfl
theorem plain (x : args_law16_VoteAsks.T) (h : args_law16_VoteAsks.wf Try.prog x) : F_law16_VoteAsks x () = some (true, ()) := by obtain ⟨⟨ht, hv, _⟩, ⟨hb, hu, hx, _⟩, ⟨h1, h2, h3, h4, _⟩, _⟩ := h; have hx := few32 (wf_slc hx (n := 32) (by kernel_rfl)).1; exact VoteAsks_plain (wf_u64 hb) (wf_u64 h2) hx
theorem wit (os : Os) (H : Type) (enc : TypeId × Value → H) : ∃ (w : World) (tape : Tape) (i : Input), w.os = os ∧ (w.forCall tape i).Shaped Try.checked.prog ∧ i.vars = [] ∧ Input.okWide Try.checked.prog (w.forCall tape i) .any w.heap.size 6 i ∧
    Rows.voteAsksSpec.pre6 enc Try.checked.prog Try.f6 Rows.voteAsksRow.domain false (w.forCall tape i).memory i.args ∧ ({} : Assume).holds Try.checked.prog (lone (Frame.enter Try.checked.prog 6 i.args .normal) [] (w.forCall tape i)) :=
  ChangeSpec.witness6 (os := os) (f := 6) (fn := Try.f6) (s := Rows.voteAsksSpec) (conds := Rows.voteAsksRow.domain) (apart := false) (enc := enc) (C := Try.checked) false ⟨#[], #[.agg #[.int .u64 0, .int .u64 0], .agg #[.int .u64 0, .int .u64 0, .slice none 0 0], .agg #[.int .u64 0, .int .u64 0, .int .u64 0, .int .u64 0]], []⟩ 12 (by kernel_rfl) (by kernel_rfl) (by kernel_rfl) (by kernel_rfl)
theorem called (W : World) (vs : List Value) (x : args_law16_VoteAsks.T) (hx : SV.RL W (fun _ => False) (fun _ => none) (args_law16_VoteAsks.svs x) vs) (hw : args_law16_VoteAsks.wf Try.checked.prog x) :
    Calls Try.checked.prog 6 vs.toArray W fun e W' => e = .returned (.bool true) ∧ Below W.heap.size W W' := law_calls fn_law16_VoteAsks ok_law16_VoteAsks hx (plain x hw)
theorem lifted (os : Os) (started : os.Started) (H : Type) (enc : TypeId × Value → H) :
    ReturnsInHanded {} Try.checked os 6 .any (Rows.voteAsksSpec.pre6 enc Try.prog Try.f6 Rows.voteAsksRow.domain false) (Rows.voteAsksSpec.post enc Try.prog Try.f6 false true false false) :=
  law_lifted (C := Try.checked) (l := args_law16_VoteAsks) (tb := 4) own started (by kernel_rfl) Try.func6
    (wit os H enc)
    rfl (told H) (by kernel_rfl) (by kernel_rfl) laidOut (by kernel_rfl) shape (by kernel_rfl)
    called
theorem over : Rows.voteAsksRow.holds Try.pinned (OpenSpec.ofChange Rows.voteAsksSpec) :=
  OpenClaim.holds_of_wide 6 Try.f6 rfl rfl rfl rfl rfl rfl rfl ⟨rfl, rfl, rfl, rfl, rfl⟩ rfl rfl rfl rfl rfl (by kernel_rfl) Try.func6 (by kernel_rfl)
    (of_decide_eq_true (by kernel_rfl)) (by unfold Func.isWrapper; first | (rw [if_pos (by decide +kernel)]; kernel_rfl) | (rw [if_neg (by decide +kernel)]; exact ⟨rfl, rfl⟩))
    (fun os started H enc _ => lifted os started H enc)
theorem proved : Rows.VoteAsksSaid := over
end Go.Proofs.Ytjhaidbfahobmaa.voteAsks
namespace Go.Proofs.Ytjhaidbfahobmaa
/-- The statement. -/
theorem voteAsks_holds : Rows.VoteAsksSaid := voteAsks.proved
#print axioms voteAsks_holds
end Go.Proofs.Ytjhaidbfahobmaa

