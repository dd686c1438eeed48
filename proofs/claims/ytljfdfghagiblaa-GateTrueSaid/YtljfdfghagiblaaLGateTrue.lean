/- Each read that tells data tells those of the last write that is done. -/
import Derived.Test.YtljfdfghagiblaaRows
import Derived.Test.YtljfdfghagiblaaHLGateTrue
import Derived.Test.YtljfdfghagiblaaPGTrue
import Derived.Test.YtljfdfghagiblaaPwfActG
set_option maxRecDepth 100000
set_option linter.unusedVariables false
namespace Go.Proofs.Ytljfdfghagiblaa.gateTrue
open Go.RowKit Go.ChangeShapes Go.Proofs.Ytljfdfghagiblaa.S2
theorem own:ownKnob Try.prog.godebug = none:=by kernel_rfl
theorem laidOut:laidOutB Try.prog = true:=by kernel_rfl
theorem shape:skArgs Try.prog Try.f11.params.toList = some args_k35:=by kernel_rfl
theorem many:Try.f11.params.toList.length = 3:=by kernel_rfl
theorem told (H:Type) (ds:List (DataW H)) (h:ds.length = Try.f11.params.toList.length):Rows.gateTrueSpec.fn H ds = { results:=[.lit (.bool true)],args:=ds }:=by
  rw [many] at h
  match ds,h with
  | [d0,d1,d2],_=>rfl
theorem plain (x:args_k35.T) (h:args_k35.wf Try.prog x):F_k35 x () = some (true,()):=by obtain ⟨dr,d,l,_⟩:=x; obtain ⟨h1,h2,h3,_⟩:=h; exact Mk.GateTrue_plain (wf_Us h1) (few8' (wf_slc h1 (n:=8) (by kernel_rfl)).1) (Nat.le_trans (Mk.few120 (wf_slc h3 (n:=120) (by kernel_rfl)).1) (by decide)) (Mk.actGs_wf (by kernel_rfl) h3)
theorem wit (os:Os) (H:Type) (enc:TypeId×Value→H):∃ (w:World) (tape:Tape) (i:Input),w.os = os∧(w.forCall tape i).Shaped Try.checked.prog∧i.vars = []∧Input.okWide Try.checked.prog (w.forCall tape i) .any w.heap.size 11 i ∧
    Rows.gateTrueSpec.pre6 enc Try.checked.prog Try.f11 Rows.gateTrueRow.domain false (w.forCall tape i).memory i.args∧({}:Assume).holds Try.checked.prog (lone (Frame.enter Try.checked.prog 11 i.args .normal) [] (w.forCall tape i)) :=
  ChangeSpec.witness6 (os:=os) (f:=11) (fn:=Try.f11) (s:=Rows.gateTrueSpec) (conds:=Rows.gateTrueRow.domain) (apart:=false) (enc:=enc) (C:=Try.checked) false ⟨#[],#[.slice none 0 0,.int .i64 0,.slice none 0 0],[]⟩ 12 (by kernel_rfl) (by kernel_rfl) (by kernel_rfl) (by kernel_rfl)
theorem called (W : World) (vs : List Value) (x : args_k35.T) (hx : SV.RL W (fun _ => False) (fun _ => none) (args_k35.svs x) vs) (hw : args_k35.wf Try.checked.prog x) :
    Calls Try.checked.prog 11 vs.toArray W fun e W'=>e = .returned (.bool true)∧Below W.heap.size W W':=law_calls fn_k35 ok_k35 hx (plain x hw)
theorem lifted (os:Os) (started:os.Started) (H:Type) (enc:TypeId×Value→H) :
    ReturnsInHanded {} Try.checked os 11 .any (Rows.gateTrueSpec.pre6 enc Try.prog Try.f11 Rows.gateTrueRow.domain false) (Rows.gateTrueSpec.post enc Try.prog Try.f11 false true false false) :=
  law_lifted (C:=Try.checked) (l:=args_k35) (tb:=4) own started (by kernel_rfl) Try.func11
    (wit os H enc)
    rfl (told H) (by kernel_rfl) (by kernel_rfl) laidOut (by kernel_rfl) shape (by kernel_rfl)
    called
theorem over:Rows.gateTrueRow.holds Try.pinned (OpenSpec.ofChange Rows.gateTrueSpec) :=
  OpenClaim.holds_of_wide 11 Try.f11 rfl rfl rfl rfl rfl rfl rfl ⟨rfl,rfl,rfl,rfl,rfl⟩ rfl rfl rfl rfl rfl (by kernel_rfl) Try.func11 (by kernel_rfl)
    (of_decide_eq_true (by kernel_rfl)) (by unfold Func.isWrapper; first | (rw [if_pos (by decide +kernel)]; kernel_rfl) | (rw [if_neg (by decide +kernel)]; exact ⟨rfl,rfl⟩))
    (fun os started H enc _=>lifted os started H enc)
theorem proved:Rows.GateTrueSaid:=over
end Go.Proofs.Ytljfdfghagiblaa.gateTrue
namespace Go.Proofs.Ytljfdfghagiblaa
theorem gateTrue_holds:Rows.GateTrueSaid:=gateTrue.proved
#print axioms gateTrue_holds
end Go.Proofs.Ytljfdfghagiblaa
