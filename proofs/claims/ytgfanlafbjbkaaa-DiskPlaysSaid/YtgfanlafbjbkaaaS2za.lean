/-
  S2, twenty-seventh part: a statement's row, out of its contract.
-/
import Derived.Test.YtgfanlafbjbkaaaS2z
set_option linter.unusedVariables false
set_option linter.unusedSimpArgs false
namespace Go.Proofs.Ytgfanlafbjbkaaa.S2
open Go Go.RowKit Go.ChangeShapes

theorem away_none {Z : Nat → Prop} (hZ : ∀ b, ¬ Z b) : Loc.away (fun _ => none) Z = fun _ => False := by
  funext b
  apply propext
  constructor
  · rintro (⟨k, l, h, _⟩ | h)
    · cases h
    · exact hZ b h
  · exact False.elim

/-- What a statement's function returns. -/
theorem law_calls {P : Program} {an : Nat → LAnn} {f : FuncId} {fn : Func} {fd : FD} {args : SkL} {F : args.T → Unit → Option (OutsT [⟨.leaf .bool, []⟩])} (hf : FnOK P an f fn fd)
    (hc : ConOK P f ⟨args, [], [⟨.leaf .bool, []⟩], F⟩) {W : World} {vs : List Value} {x : args.T} (hx : SV.RL W (fun _ => False) (fun _ => none) (args.svs x) vs) (hF : F x () = some (true, ())) :
    Calls P f vs.toArray W fun e W' => e = .returned (.bool true) ∧ Below W.heap.size W W' := by
  have hb : fn.body.isSome = true := by
    have := hf.comp
    unfold compFunc at this
    split at this
    · rename_i c h; rw [h]; rfl
    · cases this
  have hm : MR W (fun _ => False) (fun _ => none) [] :=  by
    refine ⟨?_, ?_, ?_, ?_, ?_⟩
    · intro k o h; cases h
    · intro k l h; cases h
    · intro k k' l l' b h; cases h
    · rintro b ⟨k, l, h, _⟩; cases h
    · intro b h; exact h.elim
  have h := hc x () (true, ()) hF W (fun _ => False) (fun _ => none) vs hm (by rw [away_none (fun _ h => h)]; exact hx)
  rcases h with ⟨u, w', h1, _⟩ | ⟨_, h2⟩
  · obtain ⟨hfn, _, hname⟩ := hf
    unfold callFunc at h1
    have h1' : fn.name ≠ "runtime.NumGoroutine" := by simpa using hname
    obtain ⟨c, hc⟩ := Option.isSome_iff_exists.1 hb
    simp [hfn, h1', hc, Sem.run] at h1
  · refine h2.mono fun e W' ⟨u, he, β', hst, _, hu⟩ => ?_
    have hu : u = .bool true := hu
    subst hu
    exact ⟨he, hst.os, hst.tape, hst.output, hst.size, fun b hb => hst.block b hb fun ⟨k, l, h, _⟩ => by cases h⟩

section
variable {H : Type} {enc : TypeId × Value → H} {P : Program} {W W' : World}

theorem SkL.svs_cons_RL {A : Nat → Prop} {β : Loc} {s : Sk} {l : SkL} {x : s.T} {y : l.T} {v : Value} {vs : List Value} (hx : (s.sv x).R W A β v) (hy : SV.RL W A β (l.svs y) vs) (h1 : s.wf P x) (h2 : l.wf P y) :
    ∃ z : (SkL.cons s l).T, SV.RL W A β ((SkL.cons s l).svs z) (v :: vs) ∧ (SkL.cons s l).wf P z := by
  cases s with
  | const c => exact ⟨y, ⟨v, vs, rfl, hx, hy⟩, h2⟩
  | leaf p => exact ⟨(x, y), ⟨v, vs, rfl, hx, hy⟩, h1, h2⟩
  | agg l' => exact ⟨(x, y), ⟨v, vs, rfl, hx, hy⟩, h1, h2⟩
  | tup l' => exact ⟨(x, y), ⟨v, vs, rfl, hx, hy⟩, h1, h2⟩
  | fn f l' => exact ⟨(x, y), ⟨v, vs, rfl, hx, hy⟩, h1, h2⟩

theorem args_ex (hl : laidOutB P = true) {sp : Nat → Bool} {held : Bool} {b0 : Nat} {r : Reach} : ∀ (ts : List TypeId) (l : SkL) (vs : List Value) (ds : List (DataW H)) (p : List MemPlace), skArgs P ts = some l → l.full = true → (∀ t ∈ ts, t < P.types.size) →
    (∀ (j : Nat) t v, ts[j]? = some t → vs[j]? = some v → Value.okWide P W r b0 t v) → DataW.TrodAll enc P W 0 sp held ts vs ds p → (∀ m ∈ DataW.weightsEach P ts ds, m ≤ reachBytes) →
    ∃ x : l.T, SV.RL W (fun _ => False) (fun _ => none) (l.svs x) vs ∧ l.wf P x
  | [], l, vs, ds, p, hs, _, _, _, h, _ => by
    cases hs
    obtain ⟨rfl, rfl, rfl⟩ := trodAll_nil h
    exact ⟨(), rfl, trivial⟩
  | t :: ts, l, vs, ds, p, hs, hf, ht, hv, h, hm => by
    simp only [skArgs] at hs
    split at hs
    · rename_i s r' h1 h2
      cases hs
      simp only [SkL.full, Bool.and_eq_true] at hf
      obtain ⟨v, vs', d, ds', p1, p2, rfl, rfl, rfl, h3, h4⟩ := trodAll_cons h
      obtain ⟨x, hx, hxw⟩ := sk_ex hl h1 (ht t List.mem_cons_self) hf.1 (hv 0 t v rfl rfl) h3 fun m hmm => hm m (by simp only [DataW.weightsEach, List.mem_append]; exact .inl hmm)
      obtain ⟨y, hy, hyw⟩ := args_ex hl ts r' vs' ds' p2 h2 hf.2 (fun t ht' => ht t (List.mem_cons_of_mem _ ht')) (fun j t v hj hw => hv (j + 1) t v (by simpa using hj) (by simpa using hw)) h4
        fun m hmm => hm m (by simp only [DataW.weightsEach, List.mem_append]; exact .inr hmm)
      exact SkL.svs_cons_RL hx hy hxw hyw
    · cases hs

theorem trodAll_below (hl : laidOutB P = true) (hb : Below W.heap.size W W') : ∀ (ts : List TypeId) (vs : List Value) (ds : List (DataW H)) (p : List MemPlace), (∀ t ∈ ts, t < P.types.size) → (∀ t ∈ ts, P.readableRec t = true) →
    DataW.TrodAll enc P W 0 (fun _ => true) true ts vs ds p → DataW.TrodAll enc P W' 0 (fun b => decide (b < W.heap.size)) true ts vs ds p
  | [], vs, ds, p, _, _, h => by
    obtain ⟨rfl, rfl, rfl⟩ := trodAll_nil h
    exact trodAll_mk0
  | t :: ts, vs, ds, p, ht, hr, h => by
    obtain ⟨v, vs', d, ds', p1, p2, rfl, rfl, rfl, h3, h4⟩ := trodAll_cons h
    have hlt : ∀ x ∈ p1, x.block < W.heap.size := by
      obtain ⟨m, hm⟩ := h3
      exact DataW.trod_lt m _ _ _ hm
    exact trodAll_cons_mk (Below.trod hl (hr t List.mem_cons_self) (ht t List.mem_cons_self) h3 hb hlt) (trodAll_below hl hb ts vs' ds' p2 (fun t h => ht t (List.mem_cons_of_mem _ h)) (fun t h => hr t (List.mem_cons_of_mem _ h)) h4)
end

/-- A statement's row. -/
theorem law_lifted {H : Type} {enc : TypeId × Value → H} {C : Checked} {os : Os} {f : FuncId} {fn : Func} {s : ChangeSpec} {conds : List PathCond} {l : SkL} {tb : TypeId}
    (own : ownKnob C.prog.godebug = none) (started : os.Started) (noInit : C.prog.inits.idxOf? f = none) (hfn : C.prog.funcs[f]? = some fn)
    (witness : ∃ (w : World) (tape : Tape) (i : Input), w.os = os ∧ (w.forCall tape i).Shaped C.prog ∧ i.vars = [] ∧ Input.okWide C.prog (w.forCall tape i) .any w.heap.size f i ∧
      s.pre6 enc C.prog fn conds false (w.forCall tape i).memory i.args ∧ ({} : Assume).holds C.prog (lone (Frame.enter C.prog f i.args .normal) [] (w.forCall tape i)))
    (hvars : s.vars = []) (hspec : ∀ ds : List (DataW H), ds.length = fn.params.toList.length → s.fn H ds = { results := [.lit (.bool true)], args := ds }) (hres : fn.resultTypes = #[tb]) (htb : C.prog.underlying tb = some .bool)
    (laid : laidOutB C.prog = true) (hts : fn.params.toList.all (fun t => decide (t < C.prog.types.size) && C.prog.readableRec t) = true) (hsk : skArgs C.prog fn.params.toList = some l) (hfull : l.full = true)
    (hcalls : ∀ (W : World) (vs : List Value) (x : l.T), SV.RL W (fun _ => False) (fun _ => none) (l.svs x) vs → l.wf C.prog x → Calls C.prog f vs.toArray W fun e W' => e = .returned (.bool true) ∧ Below W.heap.size W W') :
    ReturnsInHanded {} C os f .any (s.pre6 enc C.prog fn conds false) (s.post enc C.prog fn false true false false) := by
  refine returnsInHanded_of_change_sized own started noInit hfn witness ?_
  intro W base args ds gs before hval hW hcnd hsz _
  have hW' := hW
  obtain ⟨p, q, hA, hV, rfl, hfz, hnd⟩ := hW
  rw [hvars] at hV
  obtain ⟨rfl, rfl⟩ := trodVars_none hV
  have ht1 : ∀ t ∈ fn.params.toList, t < C.prog.types.size := fun t ht => by
    have := List.all_eq_true.1 hts t ht
    simp only [Bool.and_eq_true, decide_eq_true_eq] at this
    exact this.1
  have ht2 : ∀ t ∈ fn.params.toList, C.prog.readableRec t = true := fun t ht => by
    have := List.all_eq_true.1 hts t ht
    simp only [Bool.and_eq_true, decide_eq_true_eq] at this
    exact this.2
  have hlen : ∀ (ts : List TypeId) (vs : List Value) (ds : List (DataW H)) (p : List MemPlace), DataW.TrodAll enc C.prog W 0 (fun _ => true) true ts vs ds p → ds.length = ts.length := by
    intro ts
    induction ts with
    | nil => intro vs ds p h; obtain ⟨_, rfl, _⟩ := trodAll_nil h; rfl
    | cons t ts ih =>
      intro vs ds p h
      obtain ⟨v, vs', d, ds', p1, p2, rfl, rfl, rfl, h3, h4⟩ := trodAll_cons h
      simp [ih _ _ _ h4]
  have hweights : ∀ m ∈ DataW.weightsEach C.prog fn.params.toList ds, m ≤ reachBytes := by
    intro m hm
    have key : ∀ (ts : List TypeId) (ds : List (DataW H)) (ts' : List TypeId) (ds' : List (DataW H)), m ∈ DataW.weightsEach C.prog ts ds → m ∈ DataW.weightsEach C.prog (ts ++ ts') (ds ++ ds') := by
      intro ts
      induction ts with
      | nil => intro ds ts' ds' h; simp [DataW.weightsEach] at h
      | cons t ts ih =>
        intro ds ts' ds' h
        cases ds with
        | nil => simp [DataW.weightsEach] at h
        | cons d ds =>
          simp only [List.cons_append, DataW.weightsEach, List.mem_append] at h ⊢
          rcases h with h | h
          · exact .inl h
          · exact .inr (ih ds ts' ds' h)
    have := List.all_eq_true.1 hsz m (key _ _ _ _ hm)
    simpa using this
  obtain ⟨x, hx, hxw⟩ := args_ex laid fn.params.toList l args.toList ds p hsk hfull ht1 (fun j t v hj hv => hval j t v (by simpa using hj) (by simpa using hv)) hA hweights
  refine ((hcalls W args.toList x hx hxw)).mono fun e W' ⟨he, bel⟩ => ?_
  subst he
  refine ⟨_, rfl, ds, [], p ++ [], [], p, [], hW', ?_, ?_, ?_, bel.frame _, fun h => by cases h⟩
  · rw [List.append_nil, hspec ds (hlen _ _ _ _ hA), hres]
    exact trodAll_mk1 ⟨1, by simp [DataW.trod, Value.cells, htb]⟩
  · rw [List.append_nil, hspec ds (hlen _ _ _ _ hA)]
    exact trodAll_below laid bel _ _ _ _ ht1 ht2 hA
  · rw [hvars, List.append_nil, hspec ds (hlen _ _ _ _ hA)]
    rfl
end Go.Proofs.Ytgfanlafbjbkaaa.S2
namespace Go.Proofs.Ytgfanlafbjbkaaa.S2
open Go
def AllCon (P : Program) : List (Nat × Con) → Prop
  | [] => True
  | p :: l => ConOK P p.1 p.2 ∧ AllCon P l
def AllLCon (P : Program) (fd : FD) : List (Nat × LCon) → Prop
  | [] => True
  | p :: l => LConOK P (fd.loop p.1) p.2 ∧ AllLCon P fd l
theorem AllCon.mem {P : Program} : ∀ {l : List (Nat × Con)}, AllCon P l → ∀ p, p ∈ l → ConOK P p.1 p.2
  | [], _, p, h => by cases h
  | q :: l, h, p, hp => by
    rcases List.mem_cons.1 hp with rfl | hp
    · exact h.1
    · exact AllCon.mem h.2 p hp
theorem AllLCon.mem {P : Program} {fd : FD} : ∀ {l : List (Nat × LCon)}, AllLCon P fd l → ∀ p, p ∈ l → LConOK P (fd.loop p.1) p.2
  | [], _, p, h => by cases h
  | q :: l, h, p, hp => by
    rcases List.mem_cons.1 hp with rfl | hp
    · exact h.1
    · exact AllLCon.mem h.2 p hp
theorem known_of {P : Program} {fd : FD} {calls : List (Nat × Con)} {loops : List (Nat × LCon)} (mix : P.follows .mixedOrders = true) (ids : distinct (loopIds (loopsOf fd.body)) = true) (hc : AllCon P calls) (hl : AllLCon P fd loops) : Known P fd calls loops :=
  ⟨mix, ids, hc.mem, hl.mem⟩
end Go.Proofs.Ytgfanlafbjbkaaa.S2
namespace Go.Proofs.Ytgfanlafbjbkaaa.S2
open Go
/-- A call, out of the plain meaning. -/
theorem call_of {P : Program} {fd : FD} {calls : List (Nat × Con)} {loops : List (Nat × LCon)} {byRef : FuncId → CC} (k : Known P fd calls loops) {an : Nat → LAnn} {f : FuncId} {fn : Func} (hf : FnOK P an f fn fd) (rc : RC) {args : List SV} {m m' : Mem} {v : SV}
    (h : callBody (table calls loops) byRef rc fd args m (fun v m => some (v, m)) = some (v, m')) : CallOK P f args m v m' := callBody_sound k.ok k.mix hf k.self h

/-- A list that nobody writes, and that is empty, is nil, or it is not. -/
theorem empty_cases {w : World} {A : Nat → Prop} {β : Loc} {e : TypeId} {r : Row} {v : Value} (h : (SV.ps e r []).R w A β v) : SV.nils.R w A β v ∨ SV.pe.R w A β v := by
  simp only [SV.R, Prim.R] at h
  obtain ⟨ad, cap, hv, hcap, _⟩ := h
  cases ad with
  | none =>
    have := hcap.2 rfl
    subst this
    exact .inl hv
  | some a => exact .inr ⟨a, cap, hv⟩

theorem con_slc {P : Program} {f : FuncId} {e : TypeId} {r : Row} {outs : List OutC} {F : (List r.T × Unit) → Unit → Option (OutsT outs)}
    (h0 : ∀ o, F ([], ()) () = some o → CallOK P f [.nils] [] (outsGet outs o).1 (outsGet outs o).2)
    (h1 : ∀ o, F ([], ()) () = some o → CallOK P f [.pe] [] (outsGet outs o).1 (outsGet outs o).2)
    (h2 : ∀ x xs o, F (x :: xs, ()) () = some o → CallOK P f [.ps e r (x :: xs)] [] (outsGet outs o).1 (outsGet outs o).2) : ConOK P f ⟨.cons (.leaf (.slc e r)) .nil, [], outs, F⟩ := by
  rintro ⟨xs, ⟨⟩⟩ ⟨⟩ o ho w Z β vs hm hx
  obtain ⟨v, vs', rfl, hv, rfl⟩ := hx
  cases xs with
  | nil =>
    rcases empty_cases hv with hn | hn
    · exact h0 o ho w Z β _ hm ⟨v, [], rfl, hn, rfl⟩
    · exact h1 o ho w Z β _ hm ⟨v, [], rfl, hn, rfl⟩
  | cons x xs => exact h2 x xs o ho w Z β _ hm ⟨v, [], rfl, hv, rfl⟩
end Go.Proofs.Ytgfanlafbjbkaaa.S2
namespace Go.Proofs.Ytgfanlafbjbkaaa.S2
open Go
theorem wf_u64 {P : Program} {n : Int} (h : (Prim.int .u64).wf P n) : 0 ≤ n ∧ n < 18446744073709551616 := by
  have h : IntKind.u64.min ≤ n ∧ n ≤ IntKind.u64.max := h
  simp [IntKind.min, IntKind.max, IntKind.signed, IntKind.bits] at h
  omega
theorem wf_i64 {P : Program} {n : Int} (h : (Prim.int .i64).wf P n) : -9223372036854775808 ≤ n ∧ n < 9223372036854775808 := by
  have h : IntKind.i64.min ≤ n ∧ n ≤ IntKind.i64.max := h
  simp [IntKind.min, IntKind.max, IntKind.signed, IntKind.bits] at h
  omega
theorem wf_u8 {P : Program} {n : Int} (h : (Prim.int .u8).wf P n) : 0 ≤ n ∧ n < 256 := by
  have h : IntKind.u8.min ≤ n ∧ n ≤ IntKind.u8.max := h
  simp [IntKind.min, IntKind.max, IntKind.signed, IntKind.bits] at h
  omega
theorem wf_slc {P : Program} {e : TypeId} {r : Row} {xs : List r.T} {n : Nat} (h : (Prim.slc e r).wf P xs) (hn : P.bytesOf e = n) : List.length (α := r.T) xs * n ≤ 140737488351232 ∧ ∀ j (h : j < List.length (α := r.T) xs), r.wf P (List.get (α := r.T) xs ⟨j, h⟩) := by
  subst hn
  exact h
end Go.Proofs.Ytgfanlafbjbkaaa.S2
namespace Go.Proofs.Ytgfanlafbjbkaaa.S2
open Go Go.RowKit
theorem call_of_calls {P : Program} {f : FuncId} {fn : Func} (hfn : P.funcs[f]? = some fn) (hname : (fn.name == "runtime.NumGoroutine") = false) (hb : fn.body.isSome = true) {vs : Array Value} {w : World} {Post : Value → World → Prop}
    (h : Calls P f vs w fun e w' => ∃ u, e = .returned u ∧ Post u w') : CallRun P f vs w Post := by
  refine .inr ⟨?_, h⟩
  unfold callFunc
  have h1 : fn.name ≠ "runtime.NumGoroutine" := by simpa using hname
  obtain ⟨c, hc⟩ := Option.isSome_iff_exists.1 hb
  simp [hfn, h1, hc, Sem.run]

/-- A contract of the kit's own kind, as one of ours: a function that makes memory of its own alone. -/
theorem callOK_of_below {P : Program} {f : FuncId} {fn : Func} (hfn : P.funcs[f]? = some fn) (hname : (fn.name == "runtime.NumGoroutine") = false) (hb : fn.body.isSome = true) {args : List SV} {m : Mem} {v : SV}
    (h : ∀ (w : World) (A : Nat → Prop) (β : Loc) (vs : List Value), SV.RL w A β args vs → Calls P f vs.toArray w fun e w' => ∃ u, e = .returned u ∧ Below w.heap.size w w' ∧ ∀ A' β', v.R w' A' β' u) : CallOK P f args m v [] := by
  intro w Z β vs hm hx
  refine call_of_calls hfn hname hb ((h w _ β vs hx).mono fun e w' ⟨u, he, hb, hv⟩ => ⟨u, he, β, ?_, ?_, hv _ _⟩)
  · exact ⟨hb.os, hb.tape, hb.output, hb.size, fun b hlt _ => hb.block b hlt, fun b h => .inl h, Loc.le_refl β⟩
  · have hs : Step w w' β β := ⟨hb.os, hb.tape, hb.output, hb.size, fun b hlt _ => hb.block b hlt, fun b h => .inl h, Loc.le_refl β⟩
    exact hm.update (fun _ => False) hs (fun k _ => ⟨rfl, rfl⟩) (fun k l b _ hl hbb => hb.block b (hm.lt ⟨k, l, hl, hbb⟩)) (fun k o hu => hu.elim) (fun k l hu => hu.elim) (fun k l b hu => hu.elim)
end Go.Proofs.Ytgfanlafbjbkaaa.S2
