/- What is sure, what is sent, where one goes back to. -/
import Derived.Test.YtjhaidbfahobmaaRows
import Derived.Test.YtjhaidbfahobmaaHLReplTells
import Derived.Test.YtjhaidbfahobmaaPrepl2
import Derived.Test.YtjhaidbfahobmaaPwfLen
set_option maxRecDepth 100000
set_option linter.unusedVariables false
namespace Go.Proofs.Ytjhaidbfahobmaa.replTells
open Go.RowKit Go.ChangeShapes Go.Proofs.Ytjhaidbfahobmaa.S2
theorem own : ownKnob Try.prog.godebug = none := by kernel_rfl
theorem laidOut : laidOutB Try.prog = true := by kernel_rfl
theorem shape : skArgs Try.prog Try.f3.params.toList = some args_law17_ReplTells := by kernel_rfl
theorem many : Try.f3.params.toList.length = 3 := by kernel_rfl
theorem told (H : Type) (ds : List (DataW H)) (h : ds.length = Try.f3.params.toList.length) : Rows.replTellsSpec.fn H ds = { results := [.lit (.bool true)], args := ds } := by
  rw [many] at h
  match ds, h with
  | [d0, d1, d2], _ => rfl
theorem plain (x : args_law17_ReplTells.T) (h : args_law17_ReplTells.wf Try.prog x) : F_law17_ReplTells x () = some (true, ()) := by obtain ⟨⟨hb, hu, hx, _⟩, ⟨hm, hp, ht, hc, _⟩, ⟨hn, hk, _⟩, _⟩ := h; exact ReplTells_plain (wf_u64 hb) (wf_u64 hc) (wf_u64 hn)
theorem wit (os : Os) (H : Type) (enc : TypeId × Value → H) : ∃ (w : World) (tape : Tape) (i : Input), w.os = os ∧ (w.forCall tape i).Shaped Try.checked.prog ∧ i.vars = [] ∧ Input.okWide Try.checked.prog (w.forCall tape i) .any w.heap.size 3 i ∧
    Rows.replTellsSpec.pre6 enc Try.checked.prog Try.f3 Rows.replTellsRow.domain false (w.forCall tape i).memory i.args ∧ ({} : Assume).holds Try.checked.prog (lone (Frame.enter Try.checked.prog 3 i.args .normal) [] (w.forCall tape i)) :=
  ChangeSpec.witness6 (os := os) (f := 3) (fn := Try.f3) (s := Rows.replTellsSpec) (conds := Rows.replTellsRow.domain) (apart := false) (enc := enc) (C := Try.checked) false ⟨#[], #[.agg #[.int .u64 0, .int .u64 0, .slice none 0 0], .agg #[.slice none 0 0, .slice none 0 0, .int .u64 0, .int .u64 0], .agg #[.int .u64 0, .int .i64 0]], []⟩ 12 (by kernel_rfl) (by kernel_rfl) (by kernel_rfl) (by kernel_rfl)
theorem called (W : World) (vs : List Value) (x : args_law17_ReplTells.T) (hx : SV.RL W (fun _ => False) (fun _ => none) (args_law17_ReplTells.svs x) vs) (hw : args_law17_ReplTells.wf Try.checked.prog x) :
    Calls Try.checked.prog 3 vs.toArray W fun e W' => e = .returned (.bool true) ∧ Below W.heap.size W W' := law_calls fn_law17_ReplTells ok_law17_ReplTells hx (plain x hw)
theorem lifted (os : Os) (started : os.Started) (H : Type) (enc : TypeId × Value → H) :
    ReturnsInHanded {} Try.checked os 3 .any (Rows.replTellsSpec.pre6 enc Try.prog Try.f3 Rows.replTellsRow.domain false) (Rows.replTellsSpec.post enc Try.prog Try.f3 false true false false) :=
  law_lifted (C := Try.checked) (l := args_law17_ReplTells) (tb := 4) own started (by kernel_rfl) Try.func3
    (wit os H enc)
    rfl (told H) (by kernel_rfl) (by kernel_rfl) laidOut (by kernel_rfl) shape (by kernel_rfl)
    called
theorem over : Rows.replTellsRow.holds Try.pinned (OpenSpec.ofChange Rows.replTellsSpec) :=
  OpenClaim.holds_of_wide 3 Try.f3 rfl rfl rfl rfl rfl rfl rfl ⟨rfl, rfl, rfl, rfl, rfl⟩ rfl rfl rfl rfl rfl (by kernel_rfl) Try.func3 (by kernel_rfl)
    (of_decide_eq_true (by kernel_rfl)) (by unfold Func.isWrapper; first | (rw [if_pos (by decide +kernel)]; kernel_rfl) | (rw [if_neg (by decide +kernel)]; exact ⟨rfl, rfl⟩))
    (fun os started H enc _ => lifted os started H enc)
theorem proved : Rows.ReplTellsSaid := over
end Go.Proofs.Ytjhaidbfahobmaa.replTells
namespace Go.Proofs.Ytjhaidbfahobmaa
/-- The statement. -/
theorem replTells_holds : Rows.ReplTellsSaid := replTells.proved
#print axioms replTells_holds
end Go.Proofs.Ytjhaidbfahobmaa

