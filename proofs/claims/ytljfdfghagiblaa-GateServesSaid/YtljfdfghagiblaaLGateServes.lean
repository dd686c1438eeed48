/- A gateway that is shown what it wrote serves. -/
import Derived.Test.YtljfdfghagiblaaRows
import Derived.Test.YtljfdfghagiblaaHLGateServes
import Derived.Test.YtljfdfghagiblaaPGServes
import Derived.Test.YtljfdfghagiblaaPwfActG
set_option maxRecDepth 100000
set_option linter.unusedVariables false
namespace Go.Proofs.Ytljfdfghagiblaa.gateServes
open Go.RowKit Go.ChangeShapes Go.Proofs.Ytljfdfghagiblaa.S2
theorem own:ownKnob Try.prog.godebug = none:=by kernel_rfl
theorem laidOut:laidOutB Try.prog = true:=by kernel_rfl
theorem shape:skArgs Try.prog Try.f10.params.toList = some args_k33:=by kernel_rfl
theorem many:Try.f10.params.toList.length = 2:=by kernel_rfl
theorem told (H:Type) (ds:List (DataW H)) (h:ds.length = Try.f10.params.toList.length):Rows.gateServesSpec.fn H ds = { results:=[.lit (.bool true)],args:=ds }:=by
  rw [many] at h
  match ds,h with
  | [d0,d1],_=>rfl
theorem plain (x:args_k33.T) (h:args_k33.wf Try.prog x):F_k33 x () = some (true,()):=by obtain ⟨d,l,_⟩:=x; obtain ⟨h2,h3,_⟩:=h; exact Mk.GateServes_plain (Nat.le_trans (Mk.few120 (wf_slc h3 (n:=120) (by kernel_rfl)).1) (by decide)) (Mk.actGs_wf (by kernel_rfl) h3)
theorem wit (os:Os) (H:Type) (enc:TypeId×Value→H):∃ (w:World) (tape:Tape) (i:Input),w.os = os∧(w.forCall tape i).Shaped Try.checked.prog∧i.vars = []∧Input.okWide Try.checked.prog (w.forCall tape i) .any w.heap.size 10 i ∧
    Rows.gateServesSpec.pre6 enc Try.checked.prog Try.f10 Rows.gateServesRow.domain false (w.forCall tape i).memory i.args∧({}:Assume).holds Try.checked.prog (lone (Frame.enter Try.checked.prog 10 i.args .normal) [] (w.forCall tape i)) :=
  ChangeSpec.witness6 (os:=os) (f:=10) (fn:=Try.f10) (s:=Rows.gateServesSpec) (conds:=Rows.gateServesRow.domain) (apart:=false) (enc:=enc) (C:=Try.checked) false ⟨#[],#[.int .i64 0,.slice none 0 0],[]⟩ 12 (by kernel_rfl) (by kernel_rfl) (by kernel_rfl) (by kernel_rfl)
theorem called (W : World) (vs : List Value) (x : args_k33.T) (hx : SV.RL W (fun _ => False) (fun _ => none) (args_k33.svs x) vs) (hw : args_k33.wf Try.checked.prog x) :
    Calls Try.checked.prog 10 vs.toArray W fun e W'=>e = .returned (.bool true)∧Below W.heap.size W W':=law_calls fn_k33 ok_k33 hx (plain x hw)
theorem lifted (os:Os) (started:os.Started) (H:Type) (enc:TypeId×Value→H) :
    ReturnsInHanded {} Try.checked os 10 .any (Rows.gateServesSpec.pre6 enc Try.prog Try.f10 Rows.gateServesRow.domain false) (Rows.gateServesSpec.post enc Try.prog Try.f10 false true false false) :=
  law_lifted (C:=Try.checked) (l:=args_k33) (tb:=4) own started (by kernel_rfl) Try.func10
    (wit os H enc)
    rfl (told H) (by kernel_rfl) (by kernel_rfl) laidOut (by kernel_rfl) shape (by kernel_rfl)
    called
theorem over:Rows.gateServesRow.holds Try.pinned (OpenSpec.ofChange Rows.gateServesSpec) :=
  OpenClaim.holds_of_wide 10 Try.f10 rfl rfl rfl rfl rfl rfl rfl ⟨rfl,rfl,rfl,rfl,rfl⟩ rfl rfl rfl rfl rfl (by kernel_rfl) Try.func10 (by kernel_rfl)
    (of_decide_eq_true (by kernel_rfl)) (by unfold Func.isWrapper; first | (rw [if_pos (by decide +kernel)]; kernel_rfl) | (rw [if_neg (by decide +kernel)]; exact ⟨rfl,rfl⟩))
    (fun os started H enc _=>lifted os started H enc)
theorem proved:Rows.GateServesSaid:=over
end Go.Proofs.Ytljfdfghagiblaa.gateServes
namespace Go.Proofs.Ytljfdfghagiblaa
theorem gateServes_holds:Rows.GateServesSaid:=gateServes.proved
#print axioms gateServes_holds
end Go.Proofs.Ytljfdfghagiblaa
