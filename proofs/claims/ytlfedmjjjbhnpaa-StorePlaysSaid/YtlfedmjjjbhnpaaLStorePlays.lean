/- What a store trusts, behind any acts, crashes and writes of any bytes among them, is as the document says, act by act. -/
import Derived.Test.YtlfedmjjjbhnpaaRows
import Derived.Test.YtlfedmjjjbhnpaaHLStorePlays
import Derived.Test.YtlfedmjjjbhnpaaPStores
import Derived.Test.YtlfedmjjjbhnpaaPwfActs
set_option maxRecDepth 100000
set_option linter.unusedVariables false
namespace Go.Proofs.Ytlfedmjjjbhnpaa.storePlays
open Go.RowKit Go.ChangeShapes Go.Proofs.Ytlfedmjjjbhnpaa.S2
theorem own : ownKnob Try.prog.godebug = none := by kernel_rfl
theorem laidOut : laidOutB Try.prog = true := by kernel_rfl
theorem shape : skArgs Try.prog Try.f9.params.toList = some args_law22_StorePlays := by kernel_rfl
theorem many : Try.f9.params.toList.length = 3 := by kernel_rfl
theorem told (H : Type) (ds : List (DataW H)) (h : ds.length = Try.f9.params.toList.length) : Rows.storePlaysSpec.fn H ds = { results := [.lit (.bool true)], args := ds } := by
  rw [many] at h
  match ds, h with
  | [d0, d1, d2], _ => rfl
theorem plain (x : args_law22_StorePlays.T) (h : args_law22_StorePlays.wf Try.prog x) : F_law22_StorePlays x () = some (true, ()) := by obtain ⟨_, _, h3, _⟩ := h; exact p_StPlays (acts_wf h3)
theorem wit (os : Os) (H : Type) (enc : TypeId × Value → H) : ∃ (w : World) (tape : Tape) (i : Input), w.os = os ∧ (w.forCall tape i).Shaped Try.checked.prog ∧ i.vars = [] ∧ Input.okWide Try.checked.prog (w.forCall tape i) .any w.heap.size 9 i ∧
    Rows.storePlaysSpec.pre6 enc Try.checked.prog Try.f9 Rows.storePlaysRow.domain false (w.forCall tape i).memory i.args ∧ ({} : Assume).holds Try.checked.prog (lone (Frame.enter Try.checked.prog 9 i.args .normal) [] (w.forCall tape i)) :=
  ChangeSpec.witness6 (os := os) (f := 9) (fn := Try.f9) (s := Rows.storePlaysSpec) (conds := Rows.storePlaysRow.domain) (apart := false) (enc := enc) (C := Try.checked) false ⟨#[], #[.int .i64 0, .int .i64 0, .slice none 0 0], []⟩ 12 (by kernel_rfl) (by kernel_rfl) (by kernel_rfl) (by kernel_rfl)
theorem called (W : World) (vs : List Value) (x : args_law22_StorePlays.T) (hx : SV.RL W (fun _ => False) (fun _ => none) (args_law22_StorePlays.svs x) vs) (hw : args_law22_StorePlays.wf Try.checked.prog x) :
    Calls Try.checked.prog 9 vs.toArray W fun e W' => e = .returned (.bool true) ∧ Below W.heap.size W W' := law_calls fn_law22_StorePlays ok_law22_StorePlays hx (plain x hw)
theorem lifted (os : Os) (started : os.Started) (H : Type) (enc : TypeId × Value → H) :
    ReturnsInHanded {} Try.checked os 9 .any (Rows.storePlaysSpec.pre6 enc Try.prog Try.f9 Rows.storePlaysRow.domain false) (Rows.storePlaysSpec.post enc Try.prog Try.f9 false true false false) :=
  law_lifted (C := Try.checked) (l := args_law22_StorePlays) (tb := 4) own started (by kernel_rfl) Try.func9
    (wit os H enc)
    rfl (told H) (by kernel_rfl) (by kernel_rfl) laidOut (by kernel_rfl) shape (by kernel_rfl)
    called
theorem over : Rows.storePlaysRow.holds Try.pinned (OpenSpec.ofChange Rows.storePlaysSpec) :=
  OpenClaim.holds_of_wide 9 Try.f9 rfl rfl rfl rfl rfl rfl rfl ⟨rfl, rfl, rfl, rfl, rfl⟩ rfl rfl rfl rfl rfl (by kernel_rfl) Try.func9 (by kernel_rfl)
    (of_decide_eq_true (by kernel_rfl)) (by unfold Func.isWrapper; first | (rw [if_pos (by decide +kernel)]; kernel_rfl) | (rw [if_neg (by decide +kernel)]; exact ⟨rfl, rfl⟩))
    (fun os started H enc _ => lifted os started H enc)
theorem proved : Rows.StorePlaysSaid := over
end Go.Proofs.Ytlfedmjjjbhnpaa.storePlays
namespace Go.Proofs.Ytlfedmjjjbhnpaa
/-- The statement. -/
theorem storePlays_holds : Rows.StorePlaysSaid := storePlays.proved
#print axioms storePlays_holds
end Go.Proofs.Ytlfedmjjjbhnpaa

