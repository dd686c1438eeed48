/- What an enemy shows leads to the root only as the leaf at its place. -/
import Derived.Test.YtljfdfghagiblaaRows
import Derived.Test.YtljfdfghagiblaaHLMerkleShown
import Derived.Test.YtljfdfghagiblaaPmk5
import Derived.Test.YtljfdfghagiblaaPwfU
set_option maxRecDepth 100000
set_option linter.unusedVariables false
namespace Go.Proofs.Ytljfdfghagiblaa.merkleShown
open Go.RowKit Go.ChangeShapes Go.Proofs.Ytljfdfghagiblaa.S2
theorem own : ownKnob Try.prog.godebug = none := by kernel_rfl
theorem laidOut : laidOutB Try.prog = true := by kernel_rfl
theorem shape : skArgs Try.prog Try.f4.params.toList = some args_law06_MerkleShown := by kernel_rfl
theorem many : Try.f4.params.toList.length = 3 := by kernel_rfl
theorem told (H : Type) (ds : List (DataW H)) (h : ds.length = Try.f4.params.toList.length) : Rows.merkleShownSpec.fn H ds = { results := [.lit (.bool true)], args := ds } := by
  rw [many] at h
  match ds, h with
  | [d0, d1, d2], _ => rfl
theorem plain (x : args_law06_MerkleShown.T) (h : args_law06_MerkleShown.wf Try.prog x) : F_law06_MerkleShown x () = some (true, ()) := by obtain ⟨⟨d, k, ls, _⟩, ⟨i, s, p, _⟩, pk, _⟩ := x; obtain ⟨⟨h1, h2, h3, _⟩, ⟨h4, h5, h6, _⟩, _⟩ := h; have hd := wf_Us h1; have hdl := few8' (wf_slc h1 (n := 8) (by kernel_rfl)).1; have hs := wf_Ss h3; have hsl := few16' (wf_slc h3 (n := 16) (by kernel_rfl)).1; exact Mk.MerkleShown_plain hd hdl hs hsl (wf_S h5)
theorem wit (os : Os) (H : Type) (enc : TypeId × Value → H) : ∃ (w : World) (tape : Tape) (i : Input), w.os = os ∧ (w.forCall tape i).Shaped Try.checked.prog ∧ i.vars = [] ∧ Input.okWide Try.checked.prog (w.forCall tape i) .any w.heap.size 4 i ∧
    Rows.merkleShownSpec.pre6 enc Try.checked.prog Try.f4 Rows.merkleShownRow.domain false (w.forCall tape i).memory i.args ∧ ({} : Assume).holds Try.checked.prog (lone (Frame.enter Try.checked.prog 4 i.args .normal) [] (w.forCall tape i)) :=
  ChangeSpec.witness6 (os := os) (f := 4) (fn := Try.f4) (s := Rows.merkleShownSpec) (conds := Rows.merkleShownRow.domain) (apart := false) (enc := enc) (C := Try.checked) false ⟨#[], #[.agg #[.slice none 0 0, .int .i64 0, .slice none 0 0], .agg #[.int .i64 0, .string ByteArray.empty, .slice none 0 0], .slice none 0 0], []⟩ 12 (by kernel_rfl) (by kernel_rfl) (by kernel_rfl) (by kernel_rfl)
theorem called (W : World) (vs : List Value) (x : args_law06_MerkleShown.T) (hx : SV.RL W (fun _ => False) (fun _ => none) (args_law06_MerkleShown.svs x) vs) (hw : args_law06_MerkleShown.wf Try.checked.prog x) :
    Calls Try.checked.prog 4 vs.toArray W fun e W' => e = .returned (.bool true) ∧ Below W.heap.size W W' := law_calls fn_law06_MerkleShown ok_law06_MerkleShown hx (plain x hw)
theorem lifted (os : Os) (started : os.Started) (H : Type) (enc : TypeId × Value → H) :
    ReturnsInHanded {} Try.checked os 4 .any (Rows.merkleShownSpec.pre6 enc Try.prog Try.f4 Rows.merkleShownRow.domain false) (Rows.merkleShownSpec.post enc Try.prog Try.f4 false true false false) :=
  law_lifted (C := Try.checked) (l := args_law06_MerkleShown) (tb := 4) own started (by kernel_rfl) Try.func4
    (wit os H enc)
    rfl (told H) (by kernel_rfl) (by kernel_rfl) laidOut (by kernel_rfl) shape (by kernel_rfl)
    called
theorem over : Rows.merkleShownRow.holds Try.pinned (OpenSpec.ofChange Rows.merkleShownSpec) :=
  OpenClaim.holds_of_wide 4 Try.f4 rfl rfl rfl rfl rfl rfl rfl ⟨rfl, rfl, rfl, rfl, rfl⟩ rfl rfl rfl rfl rfl (by kernel_rfl) Try.func4 (by kernel_rfl)
    (of_decide_eq_true (by kernel_rfl)) (by unfold Func.isWrapper; first | (rw [if_pos (by decide +kernel)]; kernel_rfl) | (rw [if_neg (by decide +kernel)]; exact ⟨rfl, rfl⟩))
    (fun os started H enc _ => lifted os started H enc)
theorem proved : Rows.MerkleShownSaid := over
end Go.Proofs.Ytljfdfghagiblaa.merkleShown
namespace Go.Proofs.Ytljfdfghagiblaa
/-- The statement. -/
theorem merkleShown_holds : Rows.MerkleShownSaid := merkleShown.proved
#print axioms merkleShown_holds
end Go.Proofs.Ytljfdfghagiblaa

