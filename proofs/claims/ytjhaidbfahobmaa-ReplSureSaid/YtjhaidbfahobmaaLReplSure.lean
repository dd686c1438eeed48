/- What is told sure is sure. -/
import Derived.Test.YtjhaidbfahobmaaRows
import Derived.Test.YtjhaidbfahobmaaHLReplSure
import Derived.Test.YtjhaidbfahobmaaPrepl2
import Derived.Test.YtjhaidbfahobmaaPwfLen
set_option maxRecDepth 100000
set_option linter.unusedVariables false
namespace Go.Proofs.Ytjhaidbfahobmaa.replSure
open Go.RowKit Go.ChangeShapes Go.Proofs.Ytjhaidbfahobmaa.S2
theorem own : ownKnob Try.prog.godebug = none := by kernel_rfl
theorem laidOut : laidOutB Try.prog = true := by kernel_rfl
theorem shape : skArgs Try.prog Try.f4.params.toList = some args_law17_ReplSure := by kernel_rfl
theorem many : Try.f4.params.toList.length = 3 := by kernel_rfl
theorem told (H : Type) (ds : List (DataW H)) (h : ds.length = Try.f4.params.toList.length) : Rows.replSureSpec.fn H ds = { results := [.lit (.bool true)], args := ds } := by
  rw [many] at h
  match ds, h with
  | [d0, d1, d2], _ => rfl
theorem plain (x : args_law17_ReplSure.T) (h : args_law17_ReplSure.wf Try.prog x) : F_law17_ReplSure x () = some (true, ()) := by obtain ⟨⟨hb, hu, hx, _⟩, ⟨hm, hp, ht, hc, _⟩, ⟨hn, hk, _⟩, _⟩ := h; exact ReplSure_plain (wf_u64 hb) (wf_u64 hc)
theorem wit (os : Os) (H : Type) (enc : TypeId × Value → H) : ∃ (w : World) (tape : Tape) (i : Input), w.os = os ∧ (w.forCall tape i).Shaped Try.checked.prog ∧ i.vars = [] ∧ Input.okWide Try.checked.prog (w.forCall tape i) .any w.heap.size 4 i ∧
    Rows.replSureSpec.pre6 enc Try.checked.prog Try.f4 Rows.replSureRow.domain false (w.forCall tape i).memory i.args ∧ ({} : Assume).holds Try.checked.prog (lone (Frame.enter Try.checked.prog 4 i.args .normal) [] (w.forCall tape i)) :=
  ChangeSpec.witness6 (os := os) (f := 4) (fn := Try.f4) (s := Rows.replSureSpec) (conds := Rows.replSureRow.domain) (apart := false) (enc := enc) (C := Try.checked) false ⟨#[], #[.agg #[.int .u64 0, .int .u64 0, .slice none 0 0], .agg #[.slice none 0 0, .slice none 0 0, .int .u64 0, .int .u64 0], .agg #[.int .u64 0, .int .i64 0]], []⟩ 12 (by kernel_rfl) (by kernel_rfl) (by kernel_rfl) (by kernel_rfl)
theorem called (W : World) (vs : List Value) (x : args_law17_ReplSure.T) (hx : SV.RL W (fun _ => False) (fun _ => none) (args_law17_ReplSure.svs x) vs) (hw : args_law17_ReplSure.wf Try.checked.prog x) :
    Calls Try.checked.prog 4 vs.toArray W fun e W' => e = .returned (.bool true) ∧ Below W.heap.size W W' := law_calls fn_law17_ReplSure ok_law17_ReplSure hx (plain x hw)
theorem lifted (os : Os) (started : os.Started) (H : Type) (enc : TypeId × Value → H) :
    ReturnsInHanded {} Try.checked os 4 .any (Rows.replSureSpec.pre6 enc Try.prog Try.f4 Rows.replSureRow.domain false) (Rows.replSureSpec.post enc Try.prog Try.f4 false true false false) :=
  law_lifted (C := Try.checked) (l := args_law17_ReplSure) (tb := 4) own started (by kernel_rfl) Try.func4
    (wit os H enc)
    rfl (told H) (by kernel_rfl) (by kernel_rfl) laidOut (by kernel_rfl) shape (by kernel_rfl)
    called
theorem over : Rows.replSureRow.holds Try.pinned (OpenSpec.ofChange Rows.replSureSpec) :=
  OpenClaim.holds_of_wide 4 Try.f4 rfl rfl rfl rfl rfl rfl rfl ⟨rfl, rfl, rfl, rfl, rfl⟩ rfl rfl rfl rfl rfl (by kernel_rfl) Try.func4 (by kernel_rfl)
    (of_decide_eq_true (by kernel_rfl)) (by unfold Func.isWrapper; first | (rw [if_pos (by decide +kernel)]; kernel_rfl) | (rw [if_neg (by decide +kernel)]; exact ⟨rfl, rfl⟩))
    (fun os started H enc _ => lifted os started H enc)
theorem proved : Rows.ReplSureSaid := over
end Go.Proofs.Ytjhaidbfahobmaa.replSure
namespace Go.Proofs.Ytjhaidbfahobmaa
/-- The statement. -/
theorem replSure_holds : Rows.ReplSureSaid := replSure.proved
#print axioms replSure_holds
end Go.Proofs.Ytjhaidbfahobmaa

