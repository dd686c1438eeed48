/- Two trees have one root just if they have the same leaves. -/
import Derived.Test.YtljfdfghagiblaaRows
import Derived.Test.YtljfdfghagiblaaHLMerkleUnlike
import Derived.Test.YtljfdfghagiblaaPmk5
import Derived.Test.YtljfdfghagiblaaPwfU
set_option maxRecDepth 100000
set_option linter.unusedVariables false
namespace Go.Proofs.Ytljfdfghagiblaa.merkleUnlike
open Go.RowKit Go.ChangeShapes Go.Proofs.Ytljfdfghagiblaa.S2
theorem own : ownKnob Try.prog.godebug = none := by kernel_rfl
theorem laidOut : laidOutB Try.prog = true := by kernel_rfl
theorem shape : skArgs Try.prog Try.f5.params.toList = some args_law06_MerkleUnlike := by kernel_rfl
theorem many : Try.f5.params.toList.length = 2 := by kernel_rfl
theorem told (H : Type) (ds : List (DataW H)) (h : ds.length = Try.f5.params.toList.length) : Rows.merkleUnlikeSpec.fn H ds = { results := [.lit (.bool true)], args := ds } := by
  rw [many] at h
  match ds, h with
  | [d0, d1], _ => rfl
theorem plain (x : args_law06_MerkleUnlike.T) (h : args_law06_MerkleUnlike.wf Try.prog x) : F_law06_MerkleUnlike x () = some (true, ()) := by obtain ⟨⟨d, k, ls, _⟩, ms, _⟩ := x; obtain ⟨⟨h1, h2, h3, _⟩, h4, _⟩ := h; have hd := wf_Us h1; have hdl := few8' (wf_slc h1 (n := 8) (by kernel_rfl)).1; have hs := wf_Ss h3; have hsl := few16' (wf_slc h3 (n := 16) (by kernel_rfl)).1; exact Mk.MerkleUnlike_plain hd hdl hs hsl (wf_Ss h4) (few16' (wf_slc h4 (n := 16) (by kernel_rfl)).1)
theorem wit (os : Os) (H : Type) (enc : TypeId × Value → H) : ∃ (w : World) (tape : Tape) (i : Input), w.os = os ∧ (w.forCall tape i).Shaped Try.checked.prog ∧ i.vars = [] ∧ Input.okWide Try.checked.prog (w.forCall tape i) .any w.heap.size 5 i ∧
    Rows.merkleUnlikeSpec.pre6 enc Try.checked.prog Try.f5 Rows.merkleUnlikeRow.domain false (w.forCall tape i).memory i.args ∧ ({} : Assume).holds Try.checked.prog (lone (Frame.enter Try.checked.prog 5 i.args .normal) [] (w.forCall tape i)) :=
  ChangeSpec.witness6 (os := os) (f := 5) (fn := Try.f5) (s := Rows.merkleUnlikeSpec) (conds := Rows.merkleUnlikeRow.domain) (apart := false) (enc := enc) (C := Try.checked) false ⟨#[], #[.agg #[.slice none 0 0, .int .i64 0, .slice none 0 0], .slice none 0 0], []⟩ 12 (by kernel_rfl) (by kernel_rfl) (by kernel_rfl) (by kernel_rfl)
theorem called (W : World) (vs : List Value) (x : args_law06_MerkleUnlike.T) (hx : SV.RL W (fun _ => False) (fun _ => none) (args_law06_MerkleUnlike.svs x) vs) (hw : args_law06_MerkleUnlike.wf Try.checked.prog x) :
    Calls Try.checked.prog 5 vs.toArray W fun e W' => e = .returned (.bool true) ∧ Below W.heap.size W W' := law_calls fn_law06_MerkleUnlike ok_law06_MerkleUnlike hx (plain x hw)
theorem lifted (os : Os) (started : os.Started) (H : Type) (enc : TypeId × Value → H) :
    ReturnsInHanded {} Try.checked os 5 .any (Rows.merkleUnlikeSpec.pre6 enc Try.prog Try.f5 Rows.merkleUnlikeRow.domain false) (Rows.merkleUnlikeSpec.post enc Try.prog Try.f5 false true false false) :=
  law_lifted (C := Try.checked) (l := args_law06_MerkleUnlike) (tb := 4) own started (by kernel_rfl) Try.func5
    (wit os H enc)
    rfl (told H) (by kernel_rfl) (by kernel_rfl) laidOut (by kernel_rfl) shape (by kernel_rfl)
    called
theorem over : Rows.merkleUnlikeRow.holds Try.pinned (OpenSpec.ofChange Rows.merkleUnlikeSpec) :=
  OpenClaim.holds_of_wide 5 Try.f5 rfl rfl rfl rfl rfl rfl rfl ⟨rfl, rfl, rfl, rfl, rfl⟩ rfl rfl rfl rfl rfl (by kernel_rfl) Try.func5 (by kernel_rfl)
    (of_decide_eq_true (by kernel_rfl)) (by unfold Func.isWrapper; first | (rw [if_pos (by decide +kernel)]; kernel_rfl) | (rw [if_neg (by decide +kernel)]; exact ⟨rfl, rfl⟩))
    (fun os started H enc _ => lifted os started H enc)
theorem proved : Rows.MerkleUnlikeSaid := over
end Go.Proofs.Ytljfdfghagiblaa.merkleUnlike
namespace Go.Proofs.Ytljfdfghagiblaa
/-- The statement. -/
theorem merkleUnlike_holds : Rows.MerkleUnlikeSaid := merkleUnlike.proved
#print axioms merkleUnlike_holds
end Go.Proofs.Ytljfdfghagiblaa

