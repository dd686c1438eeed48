/- S2: a second,plain meaning of the model's code,and that the model does what it says. -/
import Derived.Test.YtljfdfghagiblaaS2za
import Derived.OrdersIn
import Derived.RangeFuncWrites
set_option linter.unusedVariables false
set_option linter.unusedSimpArgs false
namespace Go.Proofs.Ytljfdfghagiblaa.S2
open Go
section
variable {P:Program} {n l:Nat}
theorem oper_in {o:Oper} (hd:∀ c,o.op≠.defer c) {a:Act} {w:World} {next:Act→World→Prop} {Q:Exit→Act→World→Prop} (h:o.wp P a w next Q):o.wpIn (Fence.wide.inRound l) n P a w next Q:=by
  refine ⟨fun _ _=>trivial,?_⟩
  rw [Oper.semAt_eq _ _ _ hd]
  unfold Oper.wp at h
  generalize (execOp a.eval o).run P w = r at *
  cases r with
  | ok x w' =>
    have hno:(Fence.wide.inRound l).depth.isSome = true→1≤n:=fun h=>nomatch h
    cases x with
    | enter f args=>exact And.intro hno ((callsIn_wide (n:=n - 1)).2 h)
    | row row args =>
      refine And.intro hno fun c cs _=>?_
      obtain ⟨v,w'',r,s⟩:=h c cs
      exact ⟨v,w'',r,stepsIn_wide.2 s⟩
    | _=>first | exact h | exact h.elim
  | halt x w'=>cases x <;> exact h
theorem any_in {md:Region.Mode} {ops:Array Oper} {Q:Exit→Act→World→Prop} (hd:∀ (j:Nat) (o:Oper),ops[j]? = some o→∀ c,o.op≠.defer c) (hl:¬ LetsOut Q) :
    ∀ (fuel:Nat) (listed:Array Bool) (a:Act) (w:World),wpAny P md ops Q fuel listed a w→wpAnyIn (Fence.wide.inRound l) n P md ops Q fuel listed a w
  | 0,listed,a,w,h=>h
  | fuel + 1,listed,a,w,h=>by
    refine ⟨h.1,fun i hi=>?_⟩
    have h2:=h.2 i hi
    unfold wpOp at h2
    unfold wpOpIn
    cases ho:ops[i]? with
    | none =>
      rw [ho] at h2
      exact any_in hd hl fuel _ a w h2
    | some o =>
      rw [ho] at h2
      dsimp only at h2 ⊢
      split
      · rename_i hw
        rw [if_pos hw] at h2
        rcases h2 with h2 | h2
        · exact Oper.wpIn_mono (fun a w=>any_in hd hl fuel _ a w) (oper_in (hd i o ho) h2)
        · exact (hl h2.2).elim
      · rename_i hw
        rw [if_neg hw] at h2
        exact ⟨fun _ _=>trivial,any_in hd hl fuel _ _ w h2⟩
variable {cb:CB} {byRef:FuncId→CC}
theorem region_in (hn:cb.Nat) (hcb:cb.CallsOK P) {id:Nat} {ops:Array Oper} {ops2:List Op2} {st:St} {Z:Nat→Prop} (hmix:P.follows .mixedOrders = true) (hc:allSome (compOper P) ops.toList = some ops2) (hah:aheadOk 0 ops2 = true)
    (hd:∀ (j:Nat) (o:Oper),ops[j]? = some o→∀ c,o.op≠.defer c) {st':St} {tr:List (Option Eff)}
    (hrun:runOps cb byRef ops2 ops2 st [] (fun s t=>some (s,t)) = some (st',tr)) (hany:anyOrder ops2 tr = true) {w:World} {β:Loc} {a:Act} (hF:FR w (β.away Z) β st.tmps a) (hm:MR w Z β st.mem)
    {Q:Exit→Act→World→Prop} (hQ:∀ a' w' β',Step w w' β β'→FR w' (β'.away Z) β' st'.tmps a'→MR w' Z β' st'.mem→Q .normal a' w'):(Code.region id ops true).wpIn (Fence.wide.inRound l) n P Q a w:=by
  obtain ⟨es,hl,htr,rfl,hcame⟩:=runOps_ran hn ops2 0 st [] _ _ hrun
  have hsz:ops.size = ops2.length:=by have:=allSome_len hc; simpa using this.symm
  have R:Reg P cb byRef ops ops2 st es:=⟨hc,hl,fun k o e ho he=>by simpa using hcame k o e ho he⟩
  have hno:∀ (l:List Op2) (i:Nat) (es:List (Option Eff)) (s:St),foldAll (fun _=>false) i l es s = s:=by
    intro l
    induction l with
    | nil=>intro i es s; rfl
    | cons x l ih =>
      intro i es s
      cases es with
      | nil=>rfl
      | cons y es=>exact ih (i + 1) es s
  have hd1:Step w { w with drawn:=w.drawn + 1 } β β:=⟨rfl,rfl,rfl,Nat.le_refl _,fun _ _ _=>rfl,fun _ h=>.inl h,Loc.le_refl β⟩
  have e:(fun j=>(Array.replicate ops.size false).getD j false) = fun _=>false:=by
    funext j
    by_cases h:j < ops.size <;> simp [h]
  have hfr:=hany
  rw [htr] at hfr
  simp only [anyOrder,List.append_nil,List.reverse_reverse] at hfr
  replace hfr:=fun i j x y hij hx hy=>chkGo_spec (es:=es) ops2 es 0 [] hfr rfl rfl (fun p hp=>by cases hp) (fun i hi=>by omega) i j x y (Nat.zero_le _) hij hx hy
  have hmain:wpAny P .any ops (fun e a' w'=>e = .normal∧Q .normal a' w') ops.size (Array.replicate ops.size false) a { w with drawn:=w.drawn + 1 }:=by
    refine any_sound hn hcb R hah hfr (w0:=w) (β0:=β) (fun a' w' β' h1 h2 h3=>⟨rfl,hQ a' w' β' h1 h2 h3⟩) ops.size _ β a _ (by simp [hsz]) ?_ (fun j o hj=>?_) hd1 (by rw [e,hno]; exact ⟨hF.len,fun t=>SV.R_step hd1.stays hd1.le _ _ (hF.val t),hF.defers⟩) (by rw [e,hno]; exact hm.drew)
    · simp [List.count_replicate]
    · rw [congrFun e j] at hj; cases hj
  refine wpIn_mono (wpIn_region_any hmix (any_in hd ?_ _ _ _ _ hmain)) ?_
  · rintro ⟨a,w,h,_⟩
    cases h
  · rintro e a w ⟨rfl,h⟩
    exact h
end
section
variable {w w':World} {Z Z':Nat→Prop} {β:Loc} {m:Mem} {ts:List SV} {a:Act}
theorem MR.turn (h:MR w Z β m) {row:Option Nat} (hg:w.grownBy w' row) (hr:∀ r,row = some r→Z r) (h1:∀ b,Z' b→Z b∨w.heap.size≤b) (h2:∀ b,Z' b→b < w'.heap.size):MR w' Z' β m:=by
  have hst:Stays w w' (β.away Z) (β.away Z'):=⟨hg.size,fun b hb hA=>⟨hg.block b hb (fun e=>hA (.inr (hr b e.symm))),fun hA'=>by
    rcases hA' with ho | hz
    · exact hA (.inl ho)
    · rcases h1 b hz with hz | hz
      · exact hA (.inr hz)
      · omega⟩⟩
  refine ⟨fun k o ho=>?_,h.dom,h.inj,fun b ho hz=>?_,h2⟩
  · obtain ⟨l,hl,hob⟩:=h.obs k o ho
    refine ⟨l,hl,hob.kept hst (Loc.le_refl β) fun b hb=>?_⟩
    have hlt:=own_lt hob hb
    exact hg.block b hlt (fun e=>h.apart b ⟨k,l,hl,hb⟩ (hr b e.symm))
  · rcases h1 b hz with hz | hz
    · exact h.apart b ho hz
    · obtain ⟨k,l,hl,hb⟩:=ho
      obtain ⟨o,hko⟩:=h.dom k l hl
      obtain ⟨l',hl',hob⟩:=h.obs k o hko
      rw [hl] at hl'
      cases hl'
      have:=own_lt hob hb
      omega
theorem FR.turn (hm:MR w Z β m) (h:FR w (β.away Z) β ts a) {row:Option Nat} (hg:w.grownBy w' row) (hr:∀ r,row = some r→Z r) (h1:∀ b,Z' b→Z b∨w.heap.size≤b):FR w' (β.away Z') β ts a:=by
  have hst:Stays w w' (β.away Z) (β.away Z'):=⟨hg.size,fun b hb hA=>⟨hg.block b hb (fun e=>hA (.inr (hr b e.symm))),fun hA'=>by
    rcases hA' with ho | hz
    · exact hA (.inl ho)
    · rcases h1 b hz with hz | hz
      · exact hA (.inr hz)
      · omega⟩⟩
  exact ⟨h.len,fun t=>SV.R_step hst (Loc.le_refl β) _ _ (h.val t),h.defers⟩
end
end Go.Proofs.Ytljfdfghagiblaa.S2
