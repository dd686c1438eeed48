/- S2: a second,plain meaning of the model's code,and that the model does what it says. -/
import Derived.Test.YtljfdfghagiblaaGreatS2za
import Derived.OrdersIn
import Derived.RangeFuncWrites
import Derived.Test.YtljfdfghagiblaaGreatRows
import Derived.JoinedCond
namespace Go.Proofs.YtljfdfghagiblaaGreat.S2
open Go
section
variable {P:Program} {n l:Nat}
theorem apb {o:Oper} (hd:∀ c,o.op≠.defer c) {a:Act} {w:World} {next:Act->World->Prop} {Q:Exit->Act->World->Prop} (h:o.wp P a w next Q):o.wpIn (Fence.wide.inRound l) n P a w next Q:=by
 refine ⟨fun _ _=>trivial,?_⟩
 rw [Oper.semAt_eq _ _ _ hd]
 unfold Oper.wp at h
 generalize (execOp a.eval o).run P w=r at *
 cases r with
 | ok x w' =>
  have hno:(Fence.wide.inRound l).depth.isSome=true->1<=n:=fun h=>nomatch h
  cases x with
  | enter f args=>exact And.intro hno ((callsIn_wide (n:=n-1)).2 h)
  | row row args =>
   refine And.intro hno fun c cs _=>?_
   obtain ⟨v,w'',r,s⟩:=h c cs
   exact ⟨v,w'',r,stepsIn_wide.2 s⟩
  | _=>first | exact h | exact h.elim
 | halt x w'=>cases x<;>exact h
theorem PZ {md:Region.Mode} {ops:Array Oper} {Q:Exit->Act->World->Prop} (hd:∀ (j:Nat) (o:Oper),ops[j]? = some o->∀ c,o.op≠.defer c) (hl:¬ LetsOut Q) :
  ∀ (fuel:Nat) (listed:Array Bool) (a:Act) (w:World),wpAny P md ops Q fuel listed a w->wpAnyIn (Fence.wide.inRound l) n P md ops Q fuel listed a w
 | 0,listed,a,w,h=>h
 | fuel+1,listed,a,w,h=>by
  refine ⟨h.1,fun i hi=>?_⟩
  have h2:=h.2 i hi
  unfold wpOp at h2
  unfold wpOpIn
  cases ho:ops[i]? with
  | none =>
   rw [ho] at h2
   exact PZ hd hl fuel _ a w h2
  | some o =>
   rw [ho] at h2
   dsimp only at h2 ⊢
   split
   ·rename_i hw
    rw [if_pos hw] at h2
    rcases h2 with h2 | h2
    ·exact Oper.wpIn_mono (fun a w=>PZ hd hl fuel _ a w) (apb (hd i o ho) h2)
    ·exact (hl h2.2).elim
   ·rename_i hw
    rw [if_neg hw] at h2
    exact ⟨fun _ _=>trivial,PZ hd hl fuel _ _ w h2⟩
variable {cb:CB} {byRef:FuncId->CC}
theorem aa4 (hn:cb.Nat) (hcb:cb.CallsOK P) {id:Nat} {ops:Array Oper} {ops2:List iX} {st:St} {Z:Nat->Prop} (hmix:P.follows .mixedOrders=true) (hc:aY (jX P) ops.toList=some ops2) (hah:uk 0 ops2=true)
  (hd:∀ (j:Nat) (o:Oper),ops[j]? = some o->∀ c,o.op≠.defer c) {st':St} {tr:List (Option cw)}
  (hrun:fG cb byRef ops2 ops2 st [] (fun s t=>some (s,t))=some (st',tr)) (hany:nj ops2 tr=true) {w:World} {β:aP} {a:Act} (hF:FR w (β.away Z) β st.tmps a) (hm:MR w Z β st.mem)
  {Q:Exit->Act->World->Prop} (hQ:∀ a' w' β',bX w w' β β'->FR w' (β'.away Z) β' st'.tmps a'->MR w' Z β' st'.mem->Q .normal a' w'):(Code.region id ops true).wpIn (Fence.wide.inRound l) n P Q a w:=by
 obtain ⟨es,hl,htr,rfl,hcame⟩:=Cm hn ops2 0 st [] _ _ hrun
 have hsz:ops.size=ops2.length:=by have:=c9 hc; simpa using this.symm
 have R:Reg P cb byRef ops ops2 st es:=⟨hc,hl,fun k o e ho he=>by simpa using hcame k o e ho he⟩
 have hno:∀ (l:List iX) (i:Nat) (es:List (Option cw)) (s:St),aO (fun _=>false) i l es s=s:=by
  intro l
  induction l with
  | nil=>intro i es s; rfl
  | cons x l ih =>
   intro i es s
   cases es with
   | nil=>rfl
   | cons y es=>exact ih (i+1) es s
 have hd1:bX w { w with drawn:=w.drawn+1 } β β:=⟨rfl,rfl,rfl,Nat.le_refl _,fun _ _ _=>rfl,fun _ h=>.inl h,aP.le_refl β⟩
 have e:(fun j=>(Array.replicate ops.size false).getD j false)=fun _=>false:=by
  funext j
  by_cases h:j<ops.size<;>simp [h]
 have hfr:=hany
 rw [htr] at hfr
 simp only [nj,List.append_nil,List.reverse_reverse] at hfr
 replace hfr:=fun i j x y hij hx hy=>Cq (es:=es) ops2 es 0 [] hfr rfl rfl (fun p hp=>by cases hp) (fun i hi=>by omega) i j x y (Nat.zero_le _) hij hx hy
 have hmain:wpAny P .any ops (fun e a' w'=>e=.normal/\Q .normal a' w') ops.size (Array.replicate ops.size false) a { w with drawn:=w.drawn+1 }:=by
  refine L0 hn hcb R hah hfr (w0:=w) (β0:=β) (fun a' w' β' h1 h2 h3=>⟨rfl,hQ a' w' β' h1 h2 h3⟩) ops.size _ β a _ (by simp [hsz]) ?_ (fun j o hj=>?_) hd1 (by rw [e,hno]; exact ⟨hF.len,fun t=>SV.R_step hd1.stays hd1.le _ _ (hF.val t),hF.defers⟩) (by rw [e,hno]; exact hm.drew)
  ·simp [List.count_replicate]
  ·rw [congrFun e j] at hj; cases hj
 refine wpIn_mono (wpIn_region_any hmix (PZ hd ?_ _ _ _ _ hmain)) ?_
 ·rintro ⟨a,w,h,_⟩
  cases h
 ·rintro e a w ⟨rfl,h⟩
  exact h
end
section
variable {w w':World} {Z Z':Nat->Prop} {β:aP} {m:ar} {ts:List SV} {a:Act}
theorem MR.turn (h:MR w Z β m) {row:Option Nat} (hg:w.grownBy w' row) (hr:∀ r,row=some r->Z r) (h1:∀ b,Z' b->Z b∨w.heap.size<=b) (h2:∀ b,Z' b->b<w'.heap.size):MR w' Z' β m:=by
 have hst:cE w w' (β.away Z) (β.away Z'):=⟨hg.size,fun b hb hA=>⟨hg.block b hb (fun e=>hA (.inr (hr b e.symm))),fun hA'=>by
  rcases hA' with ho | hz
  ·exact hA (.inl ho)
  ·rcases h1 b hz with hz | hz
   ·exact hA (.inr hz)
   ·omega⟩⟩
 refine ⟨fun k o ho=>?_,h.dom,h.inj,fun b ho hz=>?_,h2⟩
 ·obtain ⟨l,hl,hob⟩:=h.obs k o ho
  refine ⟨l,hl,hob.kept hst (aP.le_refl β) fun b hb=>?_⟩
  have hlt:=IL hob hb
  exact hg.block b hlt (fun e=>h.apart b ⟨k,l,hl,hb⟩ (hr b e.symm))
 ·rcases h1 b hz with hz | hz
  ·exact h.apart b ho hz
  ·obtain ⟨k,l,hl,hb⟩:=ho
   obtain ⟨o,hko⟩:=h.dom k l hl
   obtain ⟨l',hl',hob⟩:=h.obs k o hko
   rw [hl] at hl'
   cases hl'
   have:=IL hob hb
   omega
theorem FR.turn (hm:MR w Z β m) (h:FR w (β.away Z) β ts a) {row:Option Nat} (hg:w.grownBy w' row) (hr:∀ r,row=some r->Z r) (h1:∀ b,Z' b->Z b∨w.heap.size<=b):FR w' (β.away Z') β ts a:=by
 have hst:cE w w' (β.away Z) (β.away Z'):=⟨hg.size,fun b hb hA=>⟨hg.block b hb (fun e=>hA (.inr (hr b e.symm))),fun hA'=>by
  rcases hA' with ho | hz
  ·exact hA (.inl ho)
  ·rcases h1 b hz with hz | hz
   ·exact hA (.inr hz)
   ·omega⟩⟩
 exact ⟨h.len,fun t=>SV.R_step hst (aP.le_refl β) _ _ (h.val t),h.defers⟩
end
open Go Go.RowKit Go.ChangeShapes
def zV (P:Program) (B:Nat):Bool:=(List.range P.types.size).all fun t=>decide (P.bytesOf t<=B)&&(match P.underlying t with | some (.map k e)=>decide (P.bytesOf k+P.bytesOf e<=B)&&decide (e<P.types.size) | _=>true)
theorem SR {P:Program} {B:Nat} (h:zV P B=true) {t:TypeId} (ht:t<P.types.size):P.bytesOf t<=B:=by
 have:=List.all_eq_true.1 h t (List.mem_range.2 ht)
 simp only [Bool.and_eq_true,decide_eq_true_eq] at this
 exact this.1
theorem L7 {P:Program} {B:Nat} (h:zV P B=true) {t k e:TypeId} (ht:t<P.types.size) (hu:P.underlying t=some (.map k e)):P.bytesOf k+P.bytesOf e<=B/\e<P.types.size:=by
 have:=List.all_eq_true.1 h t (List.mem_range.2 ht)
 rw [hu] at this
 simp only [Bool.and_eq_true,decide_eq_true_eq] at this
 exact this.2
section
variable {H:Type} {P:Program} {B:Nat}
theorem alT (d:DataW H):1<=Rows.uptoBulk d:=by
 cases d with
 | lit l=>cases l<;>simp [Rows.uptoBulk]
 | _=>simp [Rows.uptoBulk]
theorem zW:∀ (l:List (DataW H)),l.length<=Rows.uptoBulkAll l
 | []=>Nat.zero_le _
 | d::l=>by
  have h1:=alT d
  have h2:=zW l
  simp only [Rows.uptoBulkAll,List.length_cons]
  omega
theorem acR:∀ (x:Lit×DataW H),1<=Rows.uptoBulkEntry x
 | (l,d)=>by cases l<;>simp [Rows.uptoBulkEntry]
theorem zX:∀ (l:List (Lit×DataW H)),l.length<=Rows.uptoBulkEntries l
 | []=>Nat.zero_le _
 | d::l=>by
  have h1:=acR d
  have h2:=zX l
  simp only [Rows.uptoBulkEntries,List.length_cons]
  omega
theorem lJ {m a b:Nat} (h:m<=B*a) (hab:a<=b):m<=B*b:=Nat.le_trans h (Nat.mul_le_mul_left B hab)
mutual
theorem td (hl:laidOutB P=true) (h0:1<=B) (h1:zV P B=true):∀ (d:DataW H) (t:TypeId) (m:Nat),t<P.types.size->m∈d.weights P t->m<=B*Rows.uptoBulk d
 | .lit l,t,m,ht,h=>by
  cases l with
  | string s =>
   simp only [DataW.weights,List.mem_singleton] at h
   subst h
   simp only [Rows.uptoBulk]
   exact Nat.le_trans (Nat.le_succ _) (by simpa using Nat.mul_le_mul_right (s.length+1) h0)
  | _=>simp [DataW.weights] at h
 | .nil,t,m,ht,h=>by simp [DataW.weights] at h
 | .ptr d,t,m,ht,h=>by
  simp only [DataW.weights] at h
  split at h
  ·rename_i e he
   exact lJ (td hl h0 h1 d _ m (kid_pointer hl ht he) h) (by simp [Rows.uptoBulk])
  ·simp at h
 | .slice elems spare,t,m,ht,h=>by
  simp only [DataW.weights] at h
  split at h
  ·rename_i e he
   simp only [List.mem_cons,List.mem_append] at h
   have l1:=zW elems
   have l2:=zW spare
   rcases h with rfl | h | h
   ·rw [Nat.mul_comm]
    refine Nat.le_trans (Nat.mul_le_mul_right _ (SR h1 (kid_slice hl ht he))) (Nat.mul_le_mul_left B ?_)
    simp only [Rows.uptoBulk]
    omega
   ·exact lJ (ni hl h0 h1 elems _ m (kid_slice hl ht he) h) (by simp only [Rows.uptoBulk]; omega)
   ·exact lJ (ni hl h0 h1 spare _ m (kid_slice hl ht he) h) (by simp only [Rows.uptoBulk]; omega)
  ·simp at h
 | .agg parts,t,m,ht,h=>by
  simp only [DataW.weights] at h
  split at h
  ·rename_i fs he
   exact lJ (te hl h0 h1 parts _ m (fun t ht'=>by
    obtain ⟨f,hf,rfl⟩:=List.mem_map.1 ht'
    exact (kid_struct hl ht he).1 f hf) h) (by simp [Rows.uptoBulk])
  ·rename_i n e he
   exact lJ (ni hl h0 h1 parts _ m (kid_array hl ht he).1 h) (by simp [Rows.uptoBulk])
  ·simp at h
 | .iface t d,_,m,ht,h=>by simp [DataW.weights] at h
 | .map entries,t,m,ht,h=>by
  simp only [DataW.weights] at h
  split at h
  ·rename_i k e he
   simp only [List.mem_cons] at h
   have l1:=zX entries
   rcases h with rfl | h
   ·rw [Nat.mul_comm]
    refine Nat.le_trans (Nat.mul_le_mul_right _ (L7 h1 ht he).1) (Nat.mul_le_mul_left B ?_)
    simp only [Rows.uptoBulk]
    omega
   ·exact lJ (uw hl h0 h1 entries _ m (L7 h1 ht he).2 h) (by simp [Rows.uptoBulk])
  ·simp at h
 | .held h',t,m,ht,h=>by simp [DataW.weights] at h
theorem ni (hl:laidOutB P=true) (h0:1<=B) (h1:zV P B=true):∀ (l:List (DataW H)) (t:TypeId) (m:Nat),t<P.types.size->m∈DataW.weightsAll P t l->m<=B*Rows.uptoBulkAll l
 | [],t,m,ht,h=>by simp [DataW.weightsAll] at h
 | d::l,t,m,ht,h=>by
  simp only [DataW.weightsAll,List.mem_append] at h
  rcases h with h | h
  ·exact lJ (td hl h0 h1 d _ m ht h) (by simp [Rows.uptoBulkAll])
  ·exact lJ (ni hl h0 h1 l _ m ht h) (by simp [Rows.uptoBulkAll])
theorem te (hl:laidOutB P=true) (h0:1<=B) (h1:zV P B=true):∀ (l:List (DataW H)) (ts:List TypeId) (m:Nat),(∀ t∈ts,t<P.types.size)->m∈DataW.weightsEach P ts l->m<=B*Rows.uptoBulkAll l
 | [],ts,m,ht,h=>by cases ts<;>simp [DataW.weightsEach] at h
 | d::l,[],m,ht,h=>by simp [DataW.weightsEach] at h
 | d::l,t::ts,m,ht,h=>by
  simp only [DataW.weightsEach,List.mem_append] at h
  rcases h with h | h
  ·exact lJ (td hl h0 h1 d _ m (ht _ List.mem_cons_self) h) (by simp [Rows.uptoBulkAll])
  ·exact lJ (te hl h0 h1 l _ m (fun t h=>ht t (List.mem_cons_of_mem _ h)) h) (by simp [Rows.uptoBulkAll])
theorem uw (hl:laidOutB P=true) (h0:1<=B) (h1:zV P B=true):∀ (l:List (Lit×DataW H)) (t:TypeId) (m:Nat),t<P.types.size->m∈DataW.weightsEntries P t l->m<=B*Rows.uptoBulkEntries l
 | [],t,m,ht,h=>by simp [DataW.weightsEntries] at h
 | d::l,t,m,ht,h=>by
  simp only [DataW.weightsEntries,List.mem_append] at h
  rcases h with h | h
  ·exact lJ (HF hl h0 h1 d _ m ht h) (by simp [Rows.uptoBulkEntries])
  ·exact lJ (uw hl h0 h1 l _ m ht h) (by simp [Rows.uptoBulkEntries])
theorem HF (hl:laidOutB P=true) (h0:1<=B) (h1:zV P B=true):∀ (x:Lit×DataW H) (t:TypeId) (m:Nat),t<P.types.size->m∈DataW.weightsEntry P t x->m<=B*Rows.uptoBulkEntry x
 | (l,d),t,m,ht,h=>by
  cases l with
  | string s =>
   simp only [DataW.weightsEntry,List.mem_cons] at h
   rcases h with rfl | h
   ·simp only [Rows.uptoBulkEntry]
    exact Nat.le_trans (by omega:s.length<=s.length+Rows.uptoBulk d+1) (by simpa using Nat.mul_le_mul_right (s.length+Rows.uptoBulk d+1) h0)
   ·exact lJ (td hl h0 h1 d _ m ht h) (by simp only [Rows.uptoBulkEntry]; omega)
  | _=>exact lJ (td hl h0 h1 d _ m ht (by simpa [DataW.weightsEntry] using h)) (by simp [Rows.uptoBulkEntry])
end
end
theorem Hy {H:Type} {enc:TypeId×Value->H} {C:Checked} {os:Os} {f:FuncId} {fn:Func} {s:ChangeSpec} {conds:List PathCond} {l:aC} {tb:TypeId} {F:Stop.Interp}
  (own:ownKnob C.prog.godebug=none) (started:os.Started) (noInit:C.prog.inits.idxOf? f=none) (hfn:C.prog.funcs[f]? = some fn)
  (witness:∃ (w:World) (tape:Tape) (i:Input),w.os=os/\(w.forCall tape i).Shaped C.prog/\i.vars=[]/\Input.okWide C.prog (w.forCall tape i) .any w.heap.size f i /\
   (Rows.OpenSpec.upto s).pre6 enc C.prog fn conds false (w.forCall tape i).memory i.args/\({}:Assume).holds C.prog (lone (Frame.enter C.prog f i.args .normal) [] (w.forCall tape i)))
  (hvars:s.vars=[]) (hspec:∀ ds:List (DataW H),ds.length=fn.params.toList.length->s.fn H ds={ results:=[.lit (.bool true)],args:=ds }) (hres:fn.resultTypes=#[tb]) (htb:C.prog.underlying tb=some .bool)
  (laid:laidOutB C.prog=true) (hts:fn.params.toList.all (fun t=>decide (t<C.prog.types.size)&&C.prog.readableRec t)=true) (hsk:Jg C.prog fn.params.toList=some l) (hfull:l.full=true) (htypes:zV C.prog 120=true)
  (hcalls:∀ (W:World) (vs:List Value) (x:l.T),SV.RL W (fun _=>False) (fun _=>none) (l.svs x) vs->l.wf C.prog x->Calls C.prog f vs.toArray W fun e W'=>e=.returned (.bool true)/\Below W.heap.size W W') :
  ReturnsInHanded {} C os f .any ((Rows.OpenSpec.upto s).pre6 enc C.prog fn conds false) (((Rows.OpenSpec.upto s).at F).post enc C.prog fn false true false false):=by
 refine returnsInHanded_of_cond (C:=C) (s:=Rows.OpenSpec.upto s) (k:=Rows.uptoSmall) rfl own started noInit hfn witness ?_
 intro W base args ds gs before hval hW hcnd hk _
 have hW:DataW.Whole enc C.prog fn.params.toList s.vars false W args.toList ds gs before:=hW
 show Calls C.prog f args W fun e W'=>∃ v,e=.returned v/\s.post enc C.prog fn false true false false W args v W'
 have hW':=hW
 obtain ⟨p,q,hA,hV,rfl,hfz,hnd⟩:=hW
 rw [hvars] at hV
 obtain ⟨rfl,rfl⟩:=trodVars_none hV
 have ht1:∀ t∈fn.params.toList,t<C.prog.types.size:=fun t ht=>by
  have:=List.all_eq_true.1 hts t ht
  simp only [Bool.and_eq_true,decide_eq_true_eq] at this
  exact this.1
 have ht2:∀ t∈fn.params.toList,C.prog.readableRec t=true:=fun t ht=>by
  have:=List.all_eq_true.1 hts t ht
  simp only [Bool.and_eq_true,decide_eq_true_eq] at this
  exact this.2
 have hlen:∀ (ts:List TypeId) (vs:List Value) (ds:List (DataW H)) (p:List MemPlace),DataW.TrodAll enc C.prog W 0 (fun _=>true) true ts vs ds p->ds.length=ts.length:=by
  intro ts
  induction ts with
  | nil=>intro vs ds p h; obtain ⟨_,rfl,_⟩:=trodAll_nil h; rfl
  | cons t ts ih =>
   intro vs ds p h
   obtain ⟨v,vs',d,ds',p1,p2,rfl,rfl,rfl,h3,h4⟩:=trodAll_cons h
   simp [ih _ _ _ h4]
 have hweights:∀ m∈DataW.weightsEach C.prog fn.params.toList ds,m<=125829120:=by
  intro m hm
  have h:=te (B:=120) laid (by omega) htypes ds _ m ht1 hm
  have hk:Rows.uptoBulkAll (ds++[])<=1048576:=of_decide_eq_true hk
  rw [List.append_nil] at hk
  omega
 obtain ⟨x,hx,hxw⟩:=aa0 laid fn.params.toList l args.toList ds p hsk hfull ht1 (fun j t v hj hv=>hval j t v (by simpa using hj) (by simpa using hv)) hA hweights
 refine ((hcalls W args.toList x hx hxw)).mono fun e W' ⟨he,bel⟩=>?_
 subst he
 refine ⟨_,rfl,ds,[],p++[],[],p,[],hW',?_,?_,?_,bel.frame _,fun h=>by cases h⟩
 ·rw [List.append_nil,hspec ds (hlen _ _ _ _ hA),hres]
  exact trodAll_mk1 ⟨1,by simp [DataW.trod,Value.cells,htb]⟩
 ·rw [List.append_nil,hspec ds (hlen _ _ _ _ hA)]
  exact BV laid bel _ _ _ _ ht1 ht2 hA
 ·rw [hvars,List.append_nil,hspec ds (hlen _ _ _ _ hA)]
  rfl
end Go.Proofs.YtljfdfghagiblaaGreat.S2
