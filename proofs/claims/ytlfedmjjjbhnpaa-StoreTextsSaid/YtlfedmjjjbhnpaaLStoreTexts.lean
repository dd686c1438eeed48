/- The text of any trust, and what trust any text says, is as the document says; it is read again as it was. -/
import Derived.Test.YtlfedmjjjbhnpaaRows
import Derived.Test.YtlfedmjjjbhnpaaHLStoreTexts
import Derived.Test.YtlfedmjjjbhnpaaPStores
set_option maxRecDepth 100000
set_option linter.unusedVariables false
namespace Go.Proofs.Ytlfedmjjjbhnpaa.storeTexts
open Go.RowKit Go.ChangeShapes Go.Proofs.Ytlfedmjjjbhnpaa.S2
theorem own : ownKnob Try.prog.godebug = none := by kernel_rfl
theorem laidOut : laidOutB Try.prog = true := by kernel_rfl
theorem shape : skArgs Try.prog Try.f7.params.toList = some args_law22_StoreTexts := by kernel_rfl
theorem many : Try.f7.params.toList.length = 2 := by kernel_rfl
theorem told (H : Type) (ds : List (DataW H)) (h : ds.length = Try.f7.params.toList.length) : Rows.storeTextsSpec.fn H ds = { results := [.lit (.bool true)], args := ds } := by
  rw [many] at h
  match ds, h with
  | [d0, d1], _ => rfl
theorem plain (x : args_law22_StoreTexts.T) (h : args_law22_StoreTexts.wf Try.prog x) : F_law22_StoreTexts x () = some (true, ()) := by obtain ⟨⟨h1, h2, h3, h4, h5, h6, _⟩, h7, _⟩ := h; exact p_Texts ⟨wf_u64 h1, wf_u64 h2, wf_u64 h3, wf_u64 h4, wf_u64 h5, Nat.le_trans h6 (by decide)⟩ (Nat.le_trans h7 (by decide))
theorem wit (os : Os) (H : Type) (enc : TypeId × Value → H) : ∃ (w : World) (tape : Tape) (i : Input), w.os = os ∧ (w.forCall tape i).Shaped Try.checked.prog ∧ i.vars = [] ∧ Input.okWide Try.checked.prog (w.forCall tape i) .any w.heap.size 7 i ∧
    Rows.storeTextsSpec.pre6 enc Try.checked.prog Try.f7 Rows.storeTextsRow.domain false (w.forCall tape i).memory i.args ∧ ({} : Assume).holds Try.checked.prog (lone (Frame.enter Try.checked.prog 7 i.args .normal) [] (w.forCall tape i)) :=
  ChangeSpec.witness6 (os := os) (f := 7) (fn := Try.f7) (s := Rows.storeTextsSpec) (conds := Rows.storeTextsRow.domain) (apart := false) (enc := enc) (C := Try.checked) false ⟨#[], #[.agg #[.int .u64 0, .int .u64 0, .int .u64 0, .int .u64 0, .int .u64 0, .string ByteArray.empty], .string ByteArray.empty], []⟩ 12 (by kernel_rfl) (by kernel_rfl) (by kernel_rfl) (by kernel_rfl)
theorem called (W : World) (vs : List Value) (x : args_law22_StoreTexts.T) (hx : SV.RL W (fun _ => False) (fun _ => none) (args_law22_StoreTexts.svs x) vs) (hw : args_law22_StoreTexts.wf Try.checked.prog x) :
    Calls Try.checked.prog 7 vs.toArray W fun e W' => e = .returned (.bool true) ∧ Below W.heap.size W W' := law_calls fn_law22_StoreTexts ok_law22_StoreTexts hx (plain x hw)
theorem lifted (os : Os) (started : os.Started) (H : Type) (enc : TypeId × Value → H) :
    ReturnsInHanded {} Try.checked os 7 .any (Rows.storeTextsSpec.pre6 enc Try.prog Try.f7 Rows.storeTextsRow.domain false) (Rows.storeTextsSpec.post enc Try.prog Try.f7 false true false false) :=
  law_lifted (C := Try.checked) (l := args_law22_StoreTexts) (tb := 4) own started (by kernel_rfl) Try.func7
    (wit os H enc)
    rfl (told H) (by kernel_rfl) (by kernel_rfl) laidOut (by kernel_rfl) shape (by kernel_rfl)
    called
theorem over : Rows.storeTextsRow.holds Try.pinned (OpenSpec.ofChange Rows.storeTextsSpec) :=
  OpenClaim.holds_of_wide 7 Try.f7 rfl rfl rfl rfl rfl rfl rfl ⟨rfl, rfl, rfl, rfl, rfl⟩ rfl rfl rfl rfl rfl (by kernel_rfl) Try.func7 (by kernel_rfl)
    (of_decide_eq_true (by kernel_rfl)) (by unfold Func.isWrapper; first | (rw [if_pos (by decide +kernel)]; kernel_rfl) | (rw [if_neg (by decide +kernel)]; exact ⟨rfl, rfl⟩))
    (fun os started H enc _ => lifted os started H enc)
theorem proved : Rows.StoreTextsSaid := over
end Go.Proofs.Ytlfedmjjjbhnpaa.storeTexts
namespace Go.Proofs.Ytlfedmjjjbhnpaa
/-- The statement. -/
theorem storeTexts_holds : Rows.StoreTextsSaid := storeTexts.proved
#print axioms storeTexts_holds
end Go.Proofs.Ytlfedmjjjbhnpaa

