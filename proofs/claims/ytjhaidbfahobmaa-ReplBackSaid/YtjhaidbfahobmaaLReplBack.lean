/- One goes back by one at least. -/
import Derived.Test.YtjhaidbfahobmaaRows
import Derived.Test.YtjhaidbfahobmaaHLReplBack
import Derived.Test.YtjhaidbfahobmaaPrepl2
import Derived.Test.YtjhaidbfahobmaaPwfLen
set_option maxRecDepth 100000
set_option linter.unusedVariables false
namespace Go.Proofs.Ytjhaidbfahobmaa.replBack
open Go.RowKit Go.ChangeShapes Go.Proofs.Ytjhaidbfahobmaa.S2
theorem own : ownKnob Try.prog.godebug = none := by kernel_rfl
theorem laidOut : laidOutB Try.prog = true := by kernel_rfl
theorem shape : skArgs Try.prog Try.f5.params.toList = some args_law17_ReplBack := by kernel_rfl
theorem many : Try.f5.params.toList.length = 2 := by kernel_rfl
theorem told (H : Type) (ds : List (DataW H)) (h : ds.length = Try.f5.params.toList.length) : Rows.replBackSpec.fn H ds = { results := [.lit (.bool true)], args := ds } := by
  rw [many] at h
  match ds, h with
  | [d0, d1], _ => rfl
theorem plain (x : args_law17_ReplBack.T) (h : args_law17_ReplBack.wf Try.prog x) : F_law17_ReplBack x () = some (true, ()) := by obtain ⟨n, hh, _⟩ := h; exact ReplBack_plain (wf_u64 n) (wf_u64 hh)
theorem wit (os : Os) (H : Type) (enc : TypeId × Value → H) : ∃ (w : World) (tape : Tape) (i : Input), w.os = os ∧ (w.forCall tape i).Shaped Try.checked.prog ∧ i.vars = [] ∧ Input.okWide Try.checked.prog (w.forCall tape i) .any w.heap.size 5 i ∧
    Rows.replBackSpec.pre6 enc Try.checked.prog Try.f5 Rows.replBackRow.domain false (w.forCall tape i).memory i.args ∧ ({} : Assume).holds Try.checked.prog (lone (Frame.enter Try.checked.prog 5 i.args .normal) [] (w.forCall tape i)) :=
  ChangeSpec.witness6 (os := os) (f := 5) (fn := Try.f5) (s := Rows.replBackSpec) (conds := Rows.replBackRow.domain) (apart := false) (enc := enc) (C := Try.checked) false ⟨#[], #[.int .u64 0, .int .u64 0], []⟩ 12 (by kernel_rfl) (by kernel_rfl) (by kernel_rfl) (by kernel_rfl)
theorem called (W : World) (vs : List Value) (x : args_law17_ReplBack.T) (hx : SV.RL W (fun _ => False) (fun _ => none) (args_law17_ReplBack.svs x) vs) (hw : args_law17_ReplBack.wf Try.checked.prog x) :
    Calls Try.checked.prog 5 vs.toArray W fun e W' => e = .returned (.bool true) ∧ Below W.heap.size W W' := law_calls fn_law17_ReplBack ok_law17_ReplBack hx (plain x hw)
theorem lifted (os : Os) (started : os.Started) (H : Type) (enc : TypeId × Value → H) :
    ReturnsInHanded {} Try.checked os 5 .any (Rows.replBackSpec.pre6 enc Try.prog Try.f5 Rows.replBackRow.domain false) (Rows.replBackSpec.post enc Try.prog Try.f5 false true false false) :=
  law_lifted (C := Try.checked) (l := args_law17_ReplBack) (tb := 4) own started (by kernel_rfl) Try.func5
    (wit os H enc)
    rfl (told H) (by kernel_rfl) (by kernel_rfl) laidOut (by kernel_rfl) shape (by kernel_rfl)
    called
theorem over : Rows.replBackRow.holds Try.pinned (OpenSpec.ofChange Rows.replBackSpec) :=
  OpenClaim.holds_of_wide 5 Try.f5 rfl rfl rfl rfl rfl rfl rfl ⟨rfl, rfl, rfl, rfl, rfl⟩ rfl rfl rfl rfl rfl (by kernel_rfl) Try.func5 (by kernel_rfl)
    (of_decide_eq_true (by kernel_rfl)) (by unfold Func.isWrapper; first | (rw [if_pos (by decide +kernel)]; kernel_rfl) | (rw [if_neg (by decide +kernel)]; exact ⟨rfl, rfl⟩))
    (fun os started H enc _ => lifted os started H enc)
theorem proved : Rows.ReplBackSaid := over
end Go.Proofs.Ytjhaidbfahobmaa.replBack
namespace Go.Proofs.Ytjhaidbfahobmaa
/-- The statement. -/
theorem replBack_holds : Rows.ReplBackSaid := replBack.proved
#print axioms replBack_holds
end Go.Proofs.Ytjhaidbfahobmaa

