/- Where the first records are dropped, and others written, the log goes round its sectors; opened again with its base and mark, behind a sync, it holds the same: at every input that the statement lets in. -/
import Derived.Test.YtlfedmjjjbhnpaaRows
import Derived.Test.YtlfedmjjjbhnpaaRows
import Derived.Test.YtlfedmjjjbhnpaaHLWalDrops
import Derived.Test.YtlfedmjjjbhnpaaPwdrops
import Derived.Test.YtlfedmjjjbhnpaaPwfStrs
set_option maxRecDepth 100000
set_option linter.unusedVariables false
namespace Go.Proofs.Ytlfedmjjjbhnpaa.walDrops
open Go.RowKit Go.ChangeShapes Go.Proofs.Ytlfedmjjjbhnpaa.S2
theorem own : ownKnob Try.prog.godebug = none := by kernel_rfl
theorem laidOut : laidOutB Try.prog = true := by kernel_rfl
theorem shape : skArgs Try.prog Try.f3.params.toList = some args_law10_WalDrops := by kernel_rfl
theorem many : Try.f3.params.toList.length = 2 := by kernel_rfl
theorem told (H : Type) (ds : List (DataW H)) (h : ds.length = Try.f3.params.toList.length) : Rows.walDropsSpec.fn H ds = { results := [.lit (.bool true)], args := ds } := by
  rw [many] at h
  match ds, h with
  | [d0, d1], _ => rfl
theorem plain (x : args_law10_WalDrops.T) (h : args_law10_WalDrops.wf Try.prog x) : F_law10_WalDrops x () = some (true, ()) := by obtain ⟨l, dr, _⟩ := x; obtain ⟨h1, h2, _⟩ := h; have h1 := strs_wf h1 (by kernel_rfl); exact p_WalDrops h1.1 h1.2 (u64s_wf h2)
theorem wit (os : Os) (H : Type) (enc : TypeId × Value → H) : ∃ (w : World) (tape : Tape) (i : Input), w.os = os ∧ (w.forCall tape i).Shaped Try.checked.prog ∧ i.vars = [] ∧ Input.okWide Try.checked.prog (w.forCall tape i) .any w.heap.size 3 i ∧
    Rows.walDropsSpec.pre6 enc Try.checked.prog Try.f3 Rows.walDropsRow.domain false (w.forCall tape i).memory i.args ∧ ({} : Assume).holds Try.checked.prog (lone (Frame.enter Try.checked.prog 3 i.args .normal) [] (w.forCall tape i)) :=
  ChangeSpec.witness6 (os := os) (f := 3) (fn := Try.f3) (s := Rows.walDropsSpec) (conds := Rows.walDropsRow.domain) (apart := false) (enc := enc) (C := Try.checked) false ⟨#[], #[.slice none 0 0, .slice none 0 0], []⟩ 12 (by kernel_rfl) (by kernel_rfl) (by kernel_rfl) (by kernel_rfl)
theorem called (W : World) (vs : List Value) (x : args_law10_WalDrops.T) (hx : SV.RL W (fun _ => False) (fun _ => none) (args_law10_WalDrops.svs x) vs) (hw : args_law10_WalDrops.wf Try.checked.prog x) :
    Calls Try.checked.prog 3 vs.toArray W fun e W' => e = .returned (.bool true) ∧ Below W.heap.size W W' := law_calls fn_law10_WalDrops ok_law10_WalDrops hx (plain x hw)
theorem lifted (os : Os) (started : os.Started) (H : Type) (enc : TypeId × Value → H) :
    ReturnsInHanded {} Try.checked os 3 .any (Rows.walDropsSpec.pre6 enc Try.prog Try.f3 Rows.walDropsRow.domain false) (Rows.walDropsSpec.post enc Try.prog Try.f3 false true false false) :=
  law_lifted (C := Try.checked) (l := args_law10_WalDrops) (tb := 4) own started (by kernel_rfl) Try.func3
    (wit os H enc)
    rfl (told H) (by kernel_rfl) (by kernel_rfl) laidOut (by kernel_rfl) shape (by kernel_rfl)
    called
theorem over : Rows.walDropsRow.holds Try.pinned (OpenSpec.ofChange Rows.walDropsSpec) :=
  OpenClaim.holds_of_wide 3 Try.f3 rfl rfl rfl rfl rfl rfl rfl ⟨rfl, rfl, rfl, rfl, rfl⟩ rfl rfl rfl rfl rfl (by kernel_rfl) Try.func3 (by kernel_rfl)
    (of_decide_eq_true (by kernel_rfl)) (by unfold Func.isWrapper; first | (rw [if_pos (by decide +kernel)]; kernel_rfl) | (rw [if_neg (by decide +kernel)]; exact ⟨rfl, rfl⟩))
    (fun os started H enc _ => lifted os started H enc)
theorem proved : Rows.WalDropsSaid := over
end Go.Proofs.Ytlfedmjjjbhnpaa.walDrops
namespace Go.Proofs.Ytlfedmjjjbhnpaa
/-- The statement. -/
theorem walDrops_holds : Rows.WalDropsSaid := walDrops.proved
#print axioms walDrops_holds
end Go.Proofs.Ytlfedmjjjbhnpaa

