/- S2: a second,plain meaning of the model's code,and that the model does what it says. -/
import Derived.Test.YtljfdfghagiblaaGreatS2q
import Derived.Orders
import Derived.LoopN
namespace Go.Proofs.YtljfdfghagiblaaGreat.S2
open Go
theorem SA {P:Program} {o:Oper} {op:O2} (hc:zD P o=some op) (hcall:op.isCall=true):∃ c,o.op=.call c/\EJ P c=some op:=by
  unfold zD at hc
  repeat' split at hc
  all_goals first
    | exact ⟨_,by assumption,hc⟩
    | (exfalso; first
        | (obtain ⟨z,_,rfl⟩:=eA hc; cases hcall)
        | (cases hc; cases hcall)
        | (cases hc))
section
variable {P:Program} {w:World} {Z:Nat->Prop} {β:aP} {m:ar} {ts:List SV} {a:Act} {o:Oper}
theorem fA.callRun {f:FuncId} {args:Array Value} {Post:Value->World->Prop} (he:execOp a.eval o=callFunc f args) (h:ur P f args w Post):fA P o a w Post:=by
 rcases h with ⟨u,w',h1,h2⟩ | ⟨h1,h2⟩
 ·exact fA.value (he▸h1) h2
 ·exact fA.enter (he▸h1) h2
theorem aF3 {cb:CB} (hn:cb.Nat) (hcb:cb.CallsOK P) {byRef:FuncId->CC} {op:O2} (hc:zD P o = some op) (hT:TR w (β.away Z) β ts a) (hm:MR w Z β m) {ef:cw}
  (h:de cb byRef (o.dst.getD 0) op ts m some=some ef):fA P o a w (c8 Z w β m ef):=by
 cases hcall:op.isCall
 ·exact alx hc hT hm h hcall
 ·obtain ⟨c,ho,hcc⟩:=SA hc hcall
  unfold EJ at hcc
  repeat' split at hcc
  all_goals first
   | (exfalso; first | (cases hcc; cases hcall; done) | (cases hcc; done))
   | skip
  ·-- a function by its name
   rename_i f hcal _ as has
   cases hcc
   simp only [de] at h
   refine fA.callRun (f:=f) (args:=(c.args.toList.map a.eval).toArray) ?_ (EP hn hcb hm h (Vl hT has))
   simp only [execOp,ho,resolve,hcal,Deferred.ofValue,Act.eval,pure_bind,invoke]
   congr 1
   apply Array.ext'
   simp
  ·-- a function that a slot holds
   rename_i t hcal _ as has
   cases hcc
   simp only [de] at h
   split at h
   ·rename_i f cap hf
    have hx:=hT t
    simp only [jp.ev] at hf
    rw [hf] at hx
    simp only [SV.R] at hx
    obtain ⟨vs,hv,hvs⟩:=hx
    refine fA.callRun (f:=f) (args:=(c.args.toList.map a.eval++vs).toArray) ?_ (EP hn hcb hm h (SV.RL_append _ _ _ _ (Vl hT has) hvs))
    simp only [execOp,ho,resolve,hcal,Act.eval,hv,Deferred.ofValue,pure_bind,invoke]
    congr 1
    apply Array.ext'
    simp
   ·cases h
end
section
variable {m m':ar}
theorem ak.of_loc (p:ak) (x:SV) (h:∀ k,k∈x.keys1->m'.get k=m.get k):p.of m' x=p.of m x:=by
 cases p with
 | slc e r =>
  cases x with
  | sl k off len=>simp only [ak.of,h k (by simp [SV.keys1])]
  | slw k=>simp only [ak.of,h k (by simp [SV.keys1])]
  | _=>rfl
 | _=>cases x<;>rfl
theorem aw.of_loc:(r:aw)->(l:List SV)->(∀ x,x∈l->∀ k,k∈x.keys1->m'.get k=m.get k)->r.of m' l=r.of m l
 | .nil,[],_=>rfl
 | .nil,_::_,_=>rfl
 | .cons p .nil,[],_=>rfl
 | .cons p .nil,[x],h=>by rw [aw.of_one,aw.of_one]; exact ak.of_loc p x (h x List.mem_cons_self)
 | .cons p .nil,_::_::_,_=>rfl
 | .cons p (.cons q r),[],_=>rfl
 | .cons p (.cons q r),[_],_=>rfl
 | .cons p (.cons q r),x::y::l,h=>by
  rw [aw.of_two,aw.of_two,ak.of_loc p x (h x List.mem_cons_self),aw.of_loc (.cons q r) (y::l) fun z hz=>h z (List.mem_cons_of_mem _ hz)]
theorem IF (x:SV) (h:∀ k,k∈x.keys1->m'.get k=m.get k):x.res m'=x.res m/\∀ k,k∈(x.res m).keys1->k∈x.keys1:=by
 cases x with
 | slw k =>
  simp only [SV.res,h k (by simp [SV.keys1]),true_and]
  intro q hq
  split at hq<;>first | exact hq | cases hq
 | _=>exact ⟨rfl,fun k hk=>hk⟩
theorem Kq (sz:Nat) (x:SV) (h:∀ k,k∈x.keys1->m'.get k=m.get k):sM sz x m'=sM sz x m:=by
 cases x with
 | sl k off len=>simp only [sM,h k (by simp [SV.keys1])]
 | bsl k n=>simp only [sM,h k (by simp [SV.keys1])]
 | _=>rfl
theorem acG (n:Option Nat) (x:SV) (h:∀ k,k∈x.keys1->m'.get k=m.get k):zu n x m'=zu n x m:=by
 cases x with
 | ptr k i fo=>cases n<;>simp only [zu,h k (by simp [SV.keys1])]
 | _=>cases n<;>rfl
theorem alA {n:Option Nat} {x:SV} {e:cw} (h:zu n x m=some e):e.fp=x.keys1:=by
 unfold zu at h
 repeat' split at h
 all_goals first | (cases h; rfl) | (cases h)
theorem Vv (n:Nat) (x v:SV) (h:∀ k,k∈x.keys1->m'.get k=m.get k):Cc n x v m'=Cc n x v m:=by
 cases x with
 | ptr k i fo=>simp only [Cc,h k (by simp [SV.keys1])]
 | _=>rfl
theorem acH {n:Nat} {x v:SV} {e:cw} (h:Cc n x v m=some e):e.fp=x.keys1:=by
 unfold Cc at h
 repeat' split at h
 all_goals first | (cases h; rfl) | (cases h)
theorem alB (sz:Option Nat) (x:SV) (lo hi:Option SV) {α:Type} (K:SV->Option α) (h:∀ k,k∈x.keys1->m'.get k=m.get k):JS sz x lo hi m' K=JS sz x lo hi m K:=by
 cases sz with
 | none=>rfl
 | some sz=>simp only [JS,Kq sz x h]
theorem alC (sz:Nat) (x i:SV) {α:Type} (K:SV->Option α) (h:∀ k,k∈x.keys1->m'.get k=m.get k):PC sz x i m' K=PC sz x i m K:=by
 cases i with
 | int k n=>simp only [PC,Kq sz x h]
 | _=>rfl
theorem Cj:∀ (ks:List Nat),(∀ k,k∈ks->m'.get k=m.get k)->cl m' ks=cl m ks
 | [],_=>rfl
 | k::ks,h=>by
  simp only [cl,h k List.mem_cons_self,Cj ks fun q hq=>h q (List.mem_cons_of_mem _ hq)]
theorem aaS {d:Nat} {e:TypeId} {r:aw}:∀ {parts:List (Nat×SV)} {xs:List r.T} {ks:List Nat} {ef:cw},Gt d e r m parts xs ks=some ef ->
  bM d∈ef.fp/\(∀ k,k∈ks->k∈ef.fp)/\∀ p,p∈parts->∀ k,k∈p.2.cellsOf.flatMap SV.keys1->k∈ef.fp
 | [],xs,ks,ef,h=>by
  simp only [Gt] at h
  split at h
  ·cases h
   exact ⟨List.mem_cons_self,fun k hk=>List.mem_cons_of_mem _ hk,fun p hp=>by cases hp⟩
  ·cases h
 | (i,v)::l,xs,ks,ef,h=>by
  simp only [Gt] at h
  split at h
  ·obtain ⟨h1,h2,h3⟩:=aaS h
   refine ⟨h1,fun k hk=>h2 k (List.mem_append_left _ hk),fun p hp k hk=>?_⟩
   rcases List.mem_cons.1 hp with rfl | hp
   ·exact h2 k (List.mem_append_right _ hk)
   ·exact h3 p hp k hk
  ·cases h
theorem SB {d:Nat} {e:TypeId} {r:aw}:∀ {parts:List (Nat×SV)} {xs:List r.T} {ks:List Nat},m'.get (bM d)=m.get (bM d)->(∀ k,k∈ks->m'.get k=m.get k) ->
  (∀ p,p∈parts->∀ k,k∈p.2.cellsOf.flatMap SV.keys1->m'.get k=m.get k)->Gt d e r m' parts xs ks=Gt d e r m parts xs ks
 | [],xs,ks,h1,h2,h3=>by simp only [Gt,h1,Cj ks h2]
 | (i,v)::l,xs,ks,h1,h2,h3=>by
  simp only [Gt]
  rw [aw.of_loc r v.cellsOf (fun x hx k hk=>h3 (i,v) List.mem_cons_self k (List.mem_flatMap.2 ⟨x,hx,hk⟩))]
  split
  ·exact SB h1 (fun k hk=>(List.mem_append.1 hk).elim (h2 k) (h3 (i,v) List.mem_cons_self k)) fun p hp=>h3 p (List.mem_cons_of_mem _ hp)
  ·rfl
theorem alD {e:TypeId} {r:aw} {n:Nat} {x:SV} {ef:cw} (h:Hb e r n x m=some ef):ef.fp=x.keys1:=by
 unfold Hb at h
 split at h
 ·split at h
  ·split at h
   ·split at h
    ·cases h; rfl
    ·cases h
   ·cases h
  ·cases h
 ·cases h
theorem acI {e:TypeId} {r:aw} (n:Nat) (x:SV) (h:∀ k,k∈x.keys1->m'.get k=m.get k):Hb e r n x m'=Hb e r n x m:=by
 unfold Hb
 split
 ·rename_i k i fo
  rw [h k (by simp [SV.keys1])]
 ·rfl
theorem alE {e:TypeId} {r:aw} (x:SV) (h:∀ k,k∈x.keys1->m'.get k=m.get k):acl e r x m'=acl e r x m:=by
 unfold acl
 split
 ·rfl
 ·rfl
 ·rename_i k off len
  rw [h k (by simp [SV.keys1])]
 ·rfl
theorem BE {kr:aw} {agg:Bool} {vp:ak} {q:Nat} (h:m'.get q=m.get q):EC kr agg vp q m'=EC kr agg vp q m:=by
 unfold EC
 rw [h]
theorem acJ {kr:aw} {agg:Bool} {vp:ak} {ok:Bool} {x k:SV} {e:cw} (h:LM kr agg vp ok x k m=some e) (hm:∀ q,q∈e.fp->m'.get q=m.get q):LM kr agg vp ok x k m'=some e:=by
 unfold LM at h ⊢
 split at h
 ·rename_i q
  split at h
  ·rename_i es key hes hkey
   have hq:m'.get q=m.get q:=hm q (by cases ok<;>(simp only at h; cases h; simp))
   simp only [BE hq,hes,hkey]
   exact h
  ·cases h
 ·cases h
theorem alF {kr:aw} {agg:Bool} {vp:ak} {x k v:SV} {e:cw} (h:acm kr agg vp x k v m=some e) (hm:∀ q,q∈e.fp->m'.get q=m.get q):acm kr agg vp x k v m'=some e:=by
 unfold acm at h ⊢
 split at h
 ·rename_i q
  split at h
  ·rename_i es key y hes hkey hy
   have hq:m'.get q=m.get q:=hm q (by cases h; simp)
   simp only [BE hq,hes,hkey,hy]
   exact h
  ·cases h
 ·cases h
theorem SC {kr:aw} {agg:Bool} {vp:ak} {x k:SV} {e:cw} (h:Bu kr agg vp x k m=some e) (hm:∀ q,q∈e.fp->m'.get q=m.get q):Bu kr agg vp x k m'=some e:=by
 unfold Bu at h ⊢
 split at h
 ·rename_i q
  split at h
  ·rename_i es key hes hkey
   have hq:m'.get q=m.get q:=hm q (by cases h; simp)
   simp only [BE hq,hes,hkey]
   exact h
  ·cases h
 ·cases h
theorem SD {kr:aw} {agg:Bool} {vp:ak} {x st v:SV} {e:cw} (h:Bv kr agg vp x st v m=some e) (hm:∀ q,q∈e.fp->m'.get q=m.get q):Bv kr agg vp x st v m'=some e:=by
 unfold Bv at h ⊢
 split at h
 ·rename_i q k i
  split at h
  ·rename_i es y hes hy
   have hq:m'.get q=m.get q:=hm q (by
    obtain ⟨_,h2⟩:=aI h
    obtain ⟨_,h3⟩:=aI h2
    cases h3; simp)
   simp only [BE hq,hes,hy]
   exact h
  ·cases h
 ·cases h
theorem ao1 {d:Nat} {e:TypeId} {r:aw} {bytes:Nat} {s x:SV} {ef:cw} (h:JU d e r bytes s x m some=some ef):bM d∈ef.fp/\(∀ k,k∈x.keys1->k∈ef.fp)/\∀ k,k∈s.keys1->k∈ef.fp:=by
 unfold JU at h
 split at h
 ·cases h
 ·split at h
  ·split at h
   ·obtain ⟨_,h⟩:=aI h
    cases h
    exact ⟨List.mem_cons_self,fun k hk=>List.mem_cons_of_mem _ hk,fun k hk=>by cases hk⟩
   ·cases h
  ·split at h
   ·split at h
    ·split at h
     ·obtain ⟨_,h⟩:=aI h
      cases h
      exact ⟨List.mem_cons_of_mem _ List.mem_cons_self,fun k hk=>List.mem_cons_of_mem _ (List.mem_cons_of_mem _ hk),fun k hk=>by
       rw [show k=_ from List.mem_singleton.1 hk]; exact List.mem_cons_self⟩
     ·cases h
    ·cases h
   ·cases h
  ·split at h
   ·split at h
    ·split at h
     ·obtain ⟨_,h⟩:=aI h
      obtain ⟨_,h⟩:=aI h
      cases h
      exact ⟨List.mem_cons_of_mem _ List.mem_cons_self,fun k hk=>List.mem_cons_of_mem _ (List.mem_cons_of_mem _ hk),fun k hk=>by
       rw [show k=_ from List.mem_singleton.1 hk]; exact List.mem_cons_self⟩
     ·cases h
    ·cases h
   ·cases h
  ·cases h
theorem alG {d:Nat} {e:TypeId} {r:aw} {bytes:Nat} {s x:SV} {α:Type} (K:cw->Option α) (h1:m'.get (bM d) = m.get (bM d)) (h2:∀ k,k∈x.keys1->m'.get k = m.get k) (h3:∀ k,k∈s.keys1->m'.get k = m.get k) :
  JU d e r bytes s x m' K=JU d e r bytes s x m K:=by
 unfold JU Cd
 rw [ak.of_loc _ x h2,h1]
 cases s with
 | sl k off len=>simp only [h3 k (by simp [SV.keys1])]
 | slw k=>simp only [h3 k (by simp [SV.keys1])]
 | _=>rfl
theorem alH {d:Nat} {e:TypeId} {r:aw} {bytes:Nat} {s x:SV} {ef:cw} (h:zv d e r bytes s x m some = some ef):bM d∈ef.fp:=by
  unfold zv at h
  repeat' split at h
  all_goals first
    | (cases h; done)
    | (obtain ⟨_,h⟩:=aI h
       obtain ⟨_,h⟩:=aI h
       cases h
       exact List.mem_cons_self)
theorem acK {d:Nat} {e:TypeId} {r:aw} {bytes:Nat} {s x:SV} {α:Type} (K:cw->Option α) (h1:m'.get (bM d)=m.get (bM d)):zv d e r bytes s x m' K=zv d e r bytes s x m K:=by
 unfold zv
 rw [h1]
theorem azJ {d:Nat} {e:TypeId} {r:aw} {bytes:Nat} {s x:SV} {ef:cw} (h:mkx d e r bytes s x m some = some ef):bM d∈ef.fp:=by
  unfold mkx at h
  repeat' split at h
  all_goals first
    | (cases h; done)
    | (obtain ⟨_,h⟩:=aI h
       obtain ⟨_,h⟩:=aI h
       obtain ⟨_,h⟩:=aI h
       cases h
       exact List.mem_cons_self)
theorem ao2 {d:Nat} {e:TypeId} {r:aw} {bytes:Nat} {s x:SV} {α:Type} (K:cw->Option α) (h1:m'.get (bM d)=m.get (bM d)):mkx d e r bytes s x m' K=mkx d e r bytes s x m K:=by
 unfold mkx
 rw [h1]
mutual
theorem SE:(x:SV)->(∀ k,k∈x.refs->m'.get k=m.get k)->x.pure m'=x.pure m/\x.lent m'=x.lent m
 | .sl k off len,h=>by simp only [SV.pure,SV.lent,h k (by simp [SV.refs]),and_self]
 | .slw k,h=>by simp only [SV.pure,SV.lent,h k (by simp [SV.refs]),and_self]
 | .agg cs,h=>by
  obtain ⟨h1,h2⟩:=LV cs (by simpa [SV.refs] using h)
  simp only [SV.pure,SV.lent,h1,h2,and_self]
 | .dead,_=>⟨rfl,rfl⟩
 | .int _ _,_=>⟨rfl,rfl⟩
 | .bool _,_=>⟨rfl,rfl⟩
 | .str _,_=>⟨rfl,rfl⟩
 | .ps _ _ _,_=>⟨rfl,rfl⟩
 | .nils,_=>⟨rfl,rfl⟩
 | .pe,_=>⟨rfl,rfl⟩
 | .ptr _ _ _,_=>⟨rfl,rfl⟩
 | .pptr _ _ _ _ _,_=>⟨rfl,rfl⟩
 | .nilp,_=>⟨rfl,rfl⟩
 | .tup _,_=>⟨rfl,rfl⟩
 | .fn _ _,_=>⟨rfl,rfl⟩
 | .nilf,_=>⟨rfl,rfl⟩
 | .nili,_=>⟨rfl,rfl⟩
 | .nilm,_=>⟨rfl,rfl⟩
 | .mp _,_=>⟨rfl,rfl⟩
 | .bsl _ _,_=>⟨rfl,rfl⟩
theorem LV:(l:List SV)->(∀ k,k∈SV.refs.refsL l->m'.get k=m.get k)->SV.pure.pureL m' l=SV.pure.pureL m l/\SV.lent.lentL m' l=SV.lent.lentL m l
 | [],_=>⟨rfl,rfl⟩
 | x::l,h=>by
  obtain ⟨h1,h2⟩:=SE x fun k hk=>h k (by simp [SV.refs.refsL,hk])
  obtain ⟨h3,h4⟩:=LV l fun k hk=>h k (by simp [SV.refs.refsL,hk])
  simp only [SV.pure.pureL,SV.lent.lentL,h1,h2,h3,h4,and_self]
end
theorem sX:∀ (l ks:List Nat) (k:Nat),k∈ks->k∈jB ks l
 | [],ks,k,h=>h
 | q::l,ks,k,h=>by
  simp only [jB]
  split
  ·exact sX l ks k h
  ·exact sX l _ k (List.mem_append_left _ h)
theorem w7:∀ (n i:Nat) (ks:List Nat) (k:Nat),k∈ks->k∈lP m n i ks
 | 0,_,_,_,h=>h
 | n+1,i,ks,k,h=>by
  simp only [lP]
  split
  ·exact h
  ·split
   ·exact w7 n _ _ k (sX _ _ k h)
   ·exact w7 n _ _ k h
theorem GM:∀ (n i:Nat) (ks:List Nat),(∀ k,k∈lP m n i ks->m'.get k=m.get k)->lP m' n i ks=lP m n i ks
 | 0,_,_,_=>rfl
 | n+1,i,ks,h=>by
  simp only [lP] at h ⊢
  cases hk:ks[i]? with
  | none=>rfl
  | some k =>
   have hmem:k∈ks:=List.mem_of_getElem? hk
   rw [hk] at h
   dsimp only at h ⊢
   have he:m'.get k=m.get k:=by
    refine h k ?_
    split
    ·exact w7 _ _ _ k (sX _ _ k hmem)
    ·exact w7 _ _ _ k hmem
   rw [he]
   cases hg:m.get k with
   | none =>
    rw [hg] at h
    exact GM n (i+1) ks h
   | some o =>
    rw [hg] at h
    exact GM n (i+1) _ h
theorem PT (ks:List Nat) (h:∀ k,k∈ks->m'.get k=m.get k):sN m' ks=sN m ks:=by
 unfold sN
 rw [Bool.eq_iff_iff,List.all_eq_true,List.all_eq_true]
 exact ⟨fun h' k hk=>by have:=h' k hk; rwa [h k hk] at this,fun h' k hk=>by have:=h' k hk; rwa [h k hk]⟩
theorem Ck (ρ:Nat->Option Nat):∀ (ks:List Nat) (i:Nat),(∀ k,k∈ks->m'.get k=m.get k)->ck m' ρ ks i=ck m ρ ks i
 | [],_,_=>rfl
 | k::ks,i,h=>by
  simp only [ck,h k List.mem_cons_self,Ck ρ ks (i+1) fun q hq=>h q (List.mem_cons_of_mem _ hq)]
theorem SF {d:Nat} {args:List SV} {lent ks:List Nat} {v:SV} {m1:ar} {e:cw} (h:ii d args lent ks m v m1=some e) :
  e.fp=lent++(SV.refs.refsL args)++ks++(aE (bc ks d m1)).filter fun k=>!ks.contains k:=by
 unfold ii at h
 split at h
 ·cases h; rfl
 ·cases h
theorem EQ (ps:Nat->Bool):(l:List SV)->(i:Nat)->(∀ k,k∈SV.refs.refsL l->m'.get k=m.get k)->lE m' ps i l=lE m ps i l/\gu m' ps i l=gu m ps i l
 | [],i,_=>⟨rfl,rfl⟩
 | x::l,i,h=>by
  obtain ⟨h1,h2⟩:=SE x fun k hk=>h k (by simp [SV.refs.refsL,hk])
  obtain ⟨h3,h4⟩:=EQ ps l (i+1) fun k hk=>h k (by simp [SV.refs.refsL,hk])
  simp only [lE,gu,h1,h2,h3,h4,and_self]
theorem acL {cb:CB} (hn:cb.Nat) {byRef:FuncId->CC} {d:Nat} {f:FuncId} {args:List SV} {e:cw} (h:EE cb byRef d f args m some = some e) (hm:∀ k,k∈e.fp->m'.get k = m.get k) :
    EE cb byRef d f args m' some=some e:=by
  unfold EE ED at h ⊢
  split at h
  · rename_i hc
    rw [hn.call] at h
    obtain ⟨⟨v,m1⟩,hcall,hback⟩:=Option.bind_eq_some_iff.1 h
    have hback:ii d args (fO byRef f args m) (d9 (co byRef f args m) m) m v m1 = some e:=by
      revert hback
      dsimp only
      cases ii d args (fO byRef f args m) (d9 (co byRef f args m) m) m v m1<;>simp
    have hfp:=SF hback
    have hpl:lE m' (byRef f).pureAt 0 args=lE m (byRef f).pureAt 0 args/\gu m' (byRef f).pureAt 0 args=gu m (byRef f).pureAt 0 args:=EQ _ args 0 fun k hk=>hm k (by rw [hfp]; simp [hk])
    have ha:co byRef f args m'=co byRef f args m:=by unfold co; rw [hpl.1]
    have hl:fO byRef f args m'=fO byRef f args m:=by unfold fO; rw [hpl.2]
    have hkm:∀ k,k∈d9 (co byRef f args m) m->m'.get k=m.get k:=fun k hk=>hm k (by rw [hfp]; simp [hk])
    have hk:d9 (co byRef f args m) m'=d9 (co byRef f args m) m:=GM _ _ _ hkm
    rw [ha,hl,hk,PT _ hkm,Ck _ _ _ hkm,if_pos hc,hn.call,hcall]
    have hb':ii d args (fO byRef f args m) (d9 (co byRef f args m) m) m' v m1 = some e:=by
      rw [← hback]
      unfold ii
      have hf:cl m' (fO byRef f args m)=cl m (fO byRef f args m):=Cj _ fun k hk=>hm k (by rw [hfp]; simp [hk])
      have hall : (((aE (bc (d9 (co byRef f args m) m) d m1)).filter fun k => !(d9 (co byRef f args m) m).contains k).all fun k => (m'.get k).isNone) =
          (((aE (bc (d9 (co byRef f args m) m) d m1)).filter fun k=>!(d9 (co byRef f args m) m).contains k).all fun k=>(m.get k).isNone):=by
        rw [Bool.eq_iff_iff,List.all_eq_true,List.all_eq_true]
        have hk:∀ k,k∈((aE (bc (d9 (co byRef f args m) m) d m1)).filter fun k=>!(d9 (co byRef f args m) m).contains k)->m'.get k=m.get k:=fun k hk=>hm k (by rw [hfp]; exact List.mem_append_right _ hk)
        exact ⟨fun h' k hk'=>by have:=h' k hk'; rwa [hk k hk'] at this,fun h' k hk'=>by have:=h' k hk'; rwa [hk k hk']⟩
      rw [hf,hall,Ck _ _ _ hkm]
    dsimp only [Option.bind]
    rw [hb']
  · cases h
end
theorem ER {q:Nat}:∀ (l:List (Nat×Ob)) (m m':ar),m'.get q=m.get q->(m'.sets l).get q=(m.sets l).get q
 | [],m,m',h=>h
 | (k,o)::l,m,m',h=>by
  simp only [ar.sets]
  refine ER l _ _ ?_
  rw [ar.get_set,ar.get_set,h]
theorem alI {k:Nat} {cs:List SV} {ix:Nat} {m m':ar} (hm:∀ q,q∈alg cs ix->m'.get q=m.get q):Vf k cs ix m'=Vf k cs ix m:=by
 unfold Vf
 unfold alg at hm
 split at hm
 ·rename_i j hj
  rw [hm j (by simp)]
 ·rfl
theorem SG {m m':ar} {key:Nat} {args:List SV} {h:Nat×Nat×TypeId×aw} (hm:∀ k,k∈Gu key args h m->m'.get k=m.get k):Sg key args h m'=Sg key args h m:=by
 unfold Sg
 unfold Gu at hm
 split at hm
 ·rename_i k i fo ha
  rw [hm k (by simp),hm key (by simp)]
  cases hk:m.get k with
  | none=>rfl
  | some o =>
   rw [hk] at hm
   cases o with
   | cells cs =>
    dsimp only at hm ⊢
    rw [alI (m:=m) (m':=m') fun q hq=>hm q (by simp [hq])]
   | _=>rfl
 ·rfl
theorem Hj {d:Nat} {args:List SV}:∀ (l:List (Nat×Nat×TypeId×aw)) (n:Nat) (m m':ar),(∀ k,k∈xG d args l n m->m'.get k=m.get k)->pf d args l n m'=pf d args l n m
 | [],n,m,m',_=>rfl
 | h::l,n,m,m',hm=>by
  simp only [xG,List.mem_append] at hm
  have h1:=SG (m:=m) (m':=m') (key:=bM d+24+n) (args:=args) (h:=h) fun k hk=>hm k (.inl hk)
  simp only [pf]
  rw [h1,Hj l (n+1) _ _ fun k hk=>ER _ _ _ (hm k (.inr hk))]
theorem Kr {d:Nat} {args:List SV}:∀ (l:List (Nat×Nat×TypeId×aw)) (n:Nat) (m m':ar),(∀ k,k∈xG d args l n m->m'.get k=m.get k)->xG d args l n m'=xG d args l n m
 | [],n,m,m',_=>rfl
 | h::l,n,m,m',hm=>by
  simp only [xG,List.mem_append] at hm
  have h1:=SG (m:=m) (m':=m') (key:=bM d+24+n) (args:=args) (h:=h) fun k hk=>hm k (.inl hk)
  have h2:Gu (bM d+24+n) args h m'=Gu (bM d+24+n) args h m:=by
   have h3:=fun k hk=>hm k (Or.inl hk)
   unfold Gu at h3 ⊢
   split
   ·rename_i k i fo ha
    rw [ha] at h3
    rw [h3 k (by simp)]
   ·rfl
  simp only [xG]
  rw [h1,h2,Kr l (n+1) _ _ fun k hk=>ER _ _ _ (hm k (.inr hk))]
theorem Ks {m m':ar} {cb:CB} (hn:cb.Nat) {byRef:FuncId->CC} {d:Nat} {f:FuncId} {args:List SV} {e:cw} (h:uF cb byRef d f args m some = some e) (hm:∀ k,k∈e.fp->m'.get k = m.get k) :
  uF cb byRef d f args m' some=some e:=by
 unfold uF at h ⊢
 rw [Bz hn] at h ⊢
 obtain ⟨e1,h1,h2⟩:=Option.bind_eq_some_iff.1 h
 cases h2
 dsimp only at hm
 simp only [List.mem_append] at hm
 have hu:=Hj (byRef f).nils 0 m m' fun k hk=>hm k (.inl hk)
 rw [hu,acL hn h1 fun k hk=>ER _ _ _ (hm k (.inr hk)),Kr (byRef f).nils 0 m m' fun k hk=>hm k (.inl hk)]
 rfl
theorem jp.ev_loc {x:jp} {ts ts':List SV} (h:∀ t,t∈x.slots->ts'.getD t .dead=ts.getD t .dead):x.ev ts'=x.ev ts:=by
 cases x with
 | tmp t=>exact h t (by simp [jp.slots])
 | k c=>rfl
theorem ao3 {cb:CB} (hn:cb.Nat) {byRef:FuncId->CC} {d:Nat} {op:O2} {ts ts':List SV} {m m':ar} {e:cw} (h:de cb byRef d op ts m some = some e)
  (ht:∀ t,t∈op.opds.flatMap jp.slots->ts'.getD t .dead=ts.getD t .dead) (hm:∀ k,k∈e.fp->m'.get k=m.get k):de cb byRef d op ts' m' some=some e:=by
 have hev:∀ x,x∈op.opds->x.ev ts'=x.ev ts:=fun x hx=>jp.ev_loc fun t htm=>ht t (List.mem_flatMap.2 ⟨x,hx,htm⟩)
 cases op with
 | mov x=>simp only [de,hev x (by simp [O2.opds])] at h ⊢; exact h
 | pick c a b=>simp only [de,hev a (by simp [O2.opds]),hev b (by simp [O2.opds]),hev c (by simp [O2.opds])] at h ⊢; exact h
 | alloc zs =>
  simp only [de] at h ⊢
  split at h
  ·rename_i hc
   cases h
   rw [hm (bM d) (by simp),if_pos hc]
  ·cases h
 | box n x =>
  simp only [de,hev x (by simp [O2.opds])] at h ⊢
  split at h
  ·rename_i hc
   cases h
   rw [hm (bM d) (by simp),if_pos hc]
  ·cases h
 | build zs parts =>
  have he:(parts.map fun p=>(p.1,p.2.1,p.2.2.ev ts'))=parts.map fun p=>(p.1,p.2.1,p.2.2.ev ts):=List.map_congr_left fun p hp=>by
   rw [hev p.2.2 (by simp only [O2.opds]; exact List.mem_map.2 ⟨p,hp,rfl⟩)]
  simp only [de,he] at h ⊢
  exact h
 | lit e' r parts =>
  have he:(parts.map fun p=>(p.1,p.2.ev ts'))=parts.map fun p=>(p.1,p.2.ev ts):=List.map_congr_left fun p hp=>by
   rw [hev p.2 (by simp only [O2.opds]; exact List.mem_map.2 ⟨p,hp,rfl⟩)]
  simp only [de,he] at h ⊢
  have h':=bv h
  obtain ⟨h1,h2,h3⟩:=aaS h'
  rw [SB (hm _ h1) (fun k hk=>hm k (h2 k hk)) fun p hp k hk=>hm k (h3 p hp k hk)]
  exact h
 | ld n x =>
  simp only [de,hev x (by simp [O2.opds])] at h ⊢
  rw [acG n _ fun k hk=>hm k (by rw [alA (bv h)]; exact hk)]
  exact h
 | st n x v =>
  simp only [de,hev x (by simp [O2.opds]),hev v (by simp [O2.opds])] at h ⊢
  rw [Vv n _ _ fun k hk=>hm k (by rw [acH (bv h)]; exact hk)]
  exact h
 | nilck x=>simp only [de,hev x (by simp [O2.opds])] at h ⊢; exact h
 | bin tk op x y=>simp only [de,hev x (by simp [O2.opds]),hev y (by simp [O2.opds])] at h ⊢; exact h
 | eqs neg ks x y=>simp only [de,hev x (by simp [O2.opds]),hev y (by simp [O2.opds])] at h ⊢; exact h
 | un op x=>simp only [de,hev x (by simp [O2.opds])] at h ⊢; exact h
 | conv k x=>simp only [de,hev x (by simp [O2.opds])] at h ⊢; exact h
 | b2s e' x =>
  simp only [de,hev x (by simp [O2.opds])] at h ⊢
  split at h
  ·rename_i xs hxs
   cases h
   unfold Cd at hxs ⊢
   rw [ak.of_loc _ _ (fun k hk=>hm k hk),hxs]
  ·cases h
 | sid x=>simp only [de,hev x (by simp [O2.opds])] at h ⊢; exact h
 | cut sz x lo hi =>
  have hlo:lo.map (·.ev ts')=lo.map (·.ev ts):=by
   cases lo with
   | none=>rfl
   | some y=>simp only [Option.map_some,hev y (by simp [O2.opds])]
  have hhi:hi.map (·.ev ts')=hi.map (·.ev ts):=by
   cases hi with
   | none=>rfl
   | some y=>simp only [Option.map_some,hev y (by simp [O2.opds])]
  simp only [de,hev x (by simp [O2.opds]),hlo,hhi] at h ⊢
  have hfp:e.fp=(x.ev ts).keys1:=by
   rw [zE] at h
   obtain ⟨v,_,hv⟩:=Option.bind_eq_some_iff.1 h
   cases hv
   rfl
  obtain ⟨r1,r2⟩:=IF (m:=m) (m':=m') (x.ev ts) fun k hk=>hm k (by rw [hfp]; exact hk)
  rw [r1,alB sz _ _ _ _ fun k hk=>hm k (by rw [hfp]; exact r2 k hk)]
  exact h
 | fa x off=>simp only [de,hev x (by simp [O2.opds])] at h ⊢; exact h
 | fv x off n=>simp only [de,hev x (by simp [O2.opds])] at h ⊢; exact h
 | ia sz x i =>
  simp only [de,hev x (by simp [O2.opds]),hev i (by simp [O2.opds])] at h ⊢
  have hfp:e.fp=(x.ev ts).keys1:=by
   rw [EK] at h
   obtain ⟨v,_,hv⟩:=Option.bind_eq_some_iff.1 h
   cases hv
   rfl
  obtain ⟨r1,r2⟩:=IF (m:=m) (m':=m') (x.ev ts) fun k hk=>hm k (by rw [hfp]; exact hk)
  rw [r1,alC sz _ _ _ fun k hk=>hm k (by rw [hfp]; exact r2 k hk)]
  exact h
 | iv x i=>simp only [de,hev x (by simp [O2.opds]),hev i (by simp [O2.opds])] at h ⊢; exact h
 | ext x i=>simp only [de,hev x (by simp [O2.opds])] at h ⊢; exact h
 | call f args =>
  have he:(args.map (·.ev ts'))=args.map (·.ev ts):=List.map_congr_left fun p hp=>hev p (by simpa [O2.opds] using hp)
  simp only [de,he] at h ⊢
  exact Ks hn h hm
 | callv x args =>
  have he:(args.map (·.ev ts'))=args.map (·.ev ts):=List.map_congr_left fun p hp=>hev p (by simp [O2.opds,hp])
  simp only [de,he,hev x (by simp [O2.opds])] at h ⊢
  split at h
  ·rename_i hx
   exact Ks hn h hm
  ·cases h
 | len k x =>
  simp only [de,hev x (by simp [O2.opds])] at h ⊢
  have hfp:e.fp=(x.ev ts).keys1:=by
   split at h
   ·cases h; rfl
   ·cases h
  obtain ⟨r1,r2⟩:=IF (m:=m) (m':=m') (x.ev ts) fun k hk=>hm k (by rw [hfp]; exact hk)
  rw [r1]
  exact h
 | app e' r bytes s x =>
  simp only [de,hev x (by simp [O2.opds]),hev s (by simp [O2.opds])] at h ⊢
  obtain ⟨h1,h2,h3⟩:=ao1 h
  rw [alG some (hm _ h1) (fun k hk=>hm k (h2 k hk)) fun k hk=>hm k (h3 k hk)]
  exact h
 | mn x y=>simp only [de,hev x (by simp [O2.opds]),hev y (by simp [O2.opds])] at h ⊢; exact h
 | mx x y=>simp only [de,hev x (by simp [O2.opds]),hev y (by simp [O2.opds])] at h ⊢; exact h
 | grow e' r bytes s n =>
  simp only [de,hev n (by simp [O2.opds]),hev s (by simp [O2.opds])] at h ⊢
  rw [acK some (hm _ (alH h))]
  exact h
 | mk e' r bytes s n =>
  simp only [de,hev n (by simp [O2.opds]),hev s (by simp [O2.opds])] at h ⊢
  rw [ao2 some (hm _ (azJ h))]
  exact h
 | aa n sz x i=>simp only [de,hev x (by simp [O2.opds]),hev i (by simp [O2.opds])] at h ⊢; exact h
 | av n sz one x i=>simp only [de,hev x (by simp [O2.opds]),hev i (by simp [O2.opds])] at h ⊢; exact h
 | acut e' r n x =>
  simp only [de,hev x (by simp [O2.opds])] at h ⊢
  have h':=bv h
  rw [acI n _ fun k hk=>hm k (by rw [alD h']; exact hk)]
  exact h
 | clr e' r x =>
  simp only [de,hev x (by simp [O2.opds])] at h ⊢
  obtain ⟨ef,h1,rfl⟩:=eA (bv h)
  obtain ⟨r1,r2⟩:=IF (m:=m) (m':=m') (x.ev ts) fun k hk=>hm k hk
  rw [r1,alE _ fun k hk=>hm k (r2 k hk)]
  exact h
 | plit parts =>
  have he:(parts.map (·.ev ts'))=parts.map (·.ev ts):=List.map_congr_left fun p hp=>hev p (by simpa [O2.opds] using hp)
  simp only [de,he] at h ⊢
  have h':=bv h
  unfold ale at h' ⊢
  split at h'
  ·rename_i hf
   cases h'
   rw [hm (bM d) (by simp),if_pos hf]
   rfl
  ·cases h'
 | mkmap kr agg vp =>
  simp only [de] at h ⊢
  have h':=bv h
  unfold PE at h' ⊢
  split at h'
  ·rename_i hf
   cases h'
   rw [hm (bM d) (by simp),if_pos hf]
   rfl
  ·cases h'
 | look kr agg vp ok x k =>
  simp only [de,hev x (by simp [O2.opds]),hev k (by simp [O2.opds])] at h ⊢
  rw [acJ (bv h) hm]
  rfl
 | mup kr agg vp x k v =>
  simp only [de,hev x (by simp [O2.opds]),hev k (by simp [O2.opds]),hev v (by simp [O2.opds])] at h ⊢
  rw [alF (bv h) hm]
  rfl
 | mentry kr agg vp x k =>
  simp only [de,hev x (by simp [O2.opds]),hev k (by simp [O2.opds])] at h ⊢
  rw [SC (bv h) hm]
  rfl
 | mstore kr agg vp x st v =>
  simp only [de,hev x (by simp [O2.opds]),hev st (by simp [O2.opds]),hev v (by simp [O2.opds])] at h ⊢
  rw [SD (bv h) hm]
  rfl
 | no=>cases h
 | mkfn f cap =>
  have he:(cap.map (·.ev ts'))=cap.map (·.ev ts):=List.map_congr_left fun p hp=>hev p (by simpa [O2.opds] using hp)
  simp only [de,he] at h ⊢
  exact h
def gv (ops:List iX) (o:iX) (st:St) (b:Bool):Prop :=
 match o.guard with
 | none=>b=true
 | some (j,want)=>∃ t,pO ops j=some t/\((∃ c,st.tmps.getD t .dead=.bool c/\b=(c==want))∨(st.tmps.getD t .dead=.tup []/\b=false))
def acM (cb:CB) (byRef:FuncId->CC) (ops:List iX) (o:iX) (st:St):Option cw->Prop
 | some ef=>gv ops o st true/\de cb byRef (o.dst.getD 0) o.op st.tmps st.mem some=some ef
 | none=>gv ops o st false
def i3 (o:iX):Option cw->St->St
 | some ef,st=>apply o.dst ef st
 | none,st=>zw o.dst st
def aO (sel:Nat->Bool):Nat->List iX->List (Option cw)->St->St
 | i,o::l,e::es,st=>aO sel (i+1) l es (if sel i then i3 o e st else st)
 | _,_,_,st=>st
theorem Kt:∀ (l:List SV) (t:Nat) (c:Bool),l.getD t .dead=.bool c->l.set t (.bool c)=l
 | [],t,c,h=>by simp at h
 | x::l,0,c,h=>by simp at h; simp [h]
 | x::l,t+1,c,h=>by
  simp only [List.set_cons_succ,List.cons.injEq,true_and]
  exact Kt l t c (by simpa using h)
section
variable {cb:CB} {byRef:FuncId->CC} {ops:List iX}
theorem LW {α:Type}:∀ (l:List SV) (k:List SV->Option α),Vg l k=k l
 | [],k=>rfl
 | x::l,k=>LW l fun l'=>k (x::l')
theorem LX {α:Type}:∀ (l:ar) (k:ar->Option α),Vh l k=k l
 | [],k=>rfl
 | (q,o)::l,k=>LX l fun l'=>k ((q,o)::l')
theorem Vw {α:Type} (st:St) (K:St->Option α):PF st K=K st:=by
 unfold PF
 rw [LW,LX]
theorem zM {α:Type} (hn:cb.Nat) (o:iX) (st:St) (K:cw->St->Option α):fP cb byRef o st K=(de cb byRef (o.dst.getD 0) o.op st.tmps st.mem some).bind fun e=>K e (apply o.dst e st):=by
 unfold fP
 rw [aoV hn]
 congr 1
 funext e
 rw [Vw]
theorem SH {α:Type} (hn:cb.Nat) (o:iX) (l:List iX) (st:St) (tr:List (Option cw)) (K:St->List (Option cw)->Option α) (r:α) (h:fG cb byRef ops (o :: l) st tr K = some r) :
  ∃ e,acM cb byRef ops o st e/\fG cb byRef ops l (i3 o e st) (e::tr) K=some r:=by
 unfold fG at h
 cases hg:o.guard with
 | none =>
  rw [hg] at h
  dsimp only at h
  rw [zM hn] at h
  obtain ⟨e,he,h⟩:=Option.bind_eq_some_iff.1 h
  exact ⟨some e,⟨by simp [gv,hg],he⟩,h⟩
 | some p =>
  obtain ⟨j,want⟩:=p
  rw [hg] at h
  dsimp only at h
  split at h
  ·cases h
  ·rename_i t ht
   split at h
   ·rename_i b hb
    have hset:∀ c,st.tmps.getD t .dead=.bool c->Gv (some t) (.bool c) st=st:=by
     intro c hc
     simp only [Gv,Kt _ _ _ hc]
    cases b<;>cases want<;>dsimp only at h<;>rw [hset _ hb] at h
    ·rw [zM hn] at h
     obtain ⟨e,he,h⟩:=Option.bind_eq_some_iff.1 h
     exact ⟨some e,⟨by simp only [gv,hg]; exact ⟨t,ht,.inl ⟨_,hb,rfl⟩⟩,he⟩,h⟩
    ·exact ⟨none,by simp only [acM,gv,hg]; exact ⟨t,ht,.inl ⟨_,hb,rfl⟩⟩,h⟩
    ·exact ⟨none,by simp only [acM,gv,hg]; exact ⟨t,ht,.inl ⟨_,hb,rfl⟩⟩,h⟩
    ·rw [zM hn] at h
     obtain ⟨e,he,h⟩:=Option.bind_eq_some_iff.1 h
     exact ⟨some e,⟨by simp only [gv,hg]; exact ⟨t,ht,.inl ⟨_,hb,rfl⟩⟩,he⟩,h⟩
   ·rename_i vs hb
    split at h
    ·exact ⟨none,by simp only [acM,gv,hg]; exact ⟨t,ht,.inr ⟨hb,by first | rfl | trivial⟩⟩,h⟩
    ·cases h
   ·cases h
theorem GN {α γ:Type} (hn:cb.Nat) (o:iX) (st:St) (K:cw->St->Option α) (K':cw->St->Option γ) (f:γ->Option α) (h:∀ e s,K e s=(K' e s).bind f) :
  fP cb byRef o st K=(fP cb byRef o st K').bind f:=by
 rw [zM hn,zM hn,Option.bind_assoc]
 congr 1
 funext e
 exact h ..
theorem cQ {α:Type} (hn:cb.Nat) (K:St->List (Option cw)->Option α):∀ (l:List iX) (st:St) (tr:List (Option cw)),
  fG cb byRef ops l st tr K=(fG cb byRef ops l st tr fun s t=>some (s,t)).bind fun p=>K p.1 p.2
 | [],st,tr=>rfl
 | o::l,st,tr=>by
  unfold fG
  cases o.guard with
  | none=>exact GN hn _ _ _ _ _ fun e s=>cQ hn K l _ _
  | some p =>
   obtain ⟨j,want⟩:=p
   dsimp only
   cases pO ops j with
   | none=>rfl
   | some t =>
    dsimp only
    cases st.tmps.getD t .dead with
    | bool b =>
     cases b<;>cases want<;>dsimp only
     ·exact GN hn _ _ _ _ _ fun e s=>cQ hn K l _ _
     ·exact cQ hn K l _ _
     ·exact cQ hn K l _ _
     ·exact GN hn _ _ _ _ _ fun e s=>cQ hn K l _ _
    | tup vs=>cases vs with
     | nil=>exact cQ hn K l _ _
     | cons x vs=>rfl
    | _=>rfl
theorem Cl (o:iX) (e:Option cw) (st:St):(i3 o e st).tmps.length=st.tmps.length:=by
 cases e<;>simp only [i3,zw,apply]<;>cases o.dst<;>simp
theorem fV (sel:Nat->Bool):∀ (i:Nat) (l:List iX) (es:List (Option cw)) (st:St),(aO sel i l es st).tmps.length=st.tmps.length
 | i,[],es,st=>rfl
 | i,o::l,[],st=>rfl
 | i,o::l,e::es,st=>by
  simp only [aO]
  rw [fV]
  split
  ·exact Cl ..
  ·rfl
theorem Cm (hn:cb.Nat):∀ (l:List iX) (i:Nat) (st:St) (tr:List (Option cw)) (st':St) (tr':List (Option cw)),
  fG cb byRef ops l st tr (fun s t=>some (s,t))=some (st',tr') ->
  ∃ es,es.length=l.length/\tr'=es.reverse++tr/\st'=aO (fun _=>true) i l es st /\
   ∀ (k:Nat) o e,l[k]? = some o->es[k]? = some e->acM cb byRef ops o (aO (fun j=>decide (j<i+k)) i l es st) e
 | [],i,st,tr,st',tr',h=>by
  simp only [fG,Option.some.injEq,Prod.mk.injEq] at h
  obtain ⟨rfl,rfl⟩:=h
  exact ⟨[],rfl,rfl,rfl,fun k o e ho=>by simp at ho⟩
 | o::l,i,st,tr,st',tr',h=>by
  obtain ⟨e,he,h⟩:=SH hn o l st tr _ _ h
  obtain ⟨es,hl,htr,hst,hall⟩:=Cm hn l (i+1) _ _ _ _ h
  refine ⟨e::es,by simp [hl],by simp [htr],by simp [aO,hst],fun k o' e' ho' he'=>?_⟩
  cases k with
  | zero =>
   simp at ho' he'
   subst ho' he'
   have hno:∀ (l:List iX) (i':Nat) (es:List (Option cw)) (s:St),i<=i'->aO (fun j=>decide (j<i+0)) i' l es s=s:=by
    intro l
    induction l with
    | nil=>intro i' es s _; rfl
    | cons x l ih =>
     intro i' es s hi
     cases es with
     | nil=>rfl
     | cons y es =>
      simp only [aO]
      rw [if_neg (by simp; omega)]
      exact ih (i'+1) es s (by omega)
   rw [hno _ _ _ _ (Nat.le_refl i)]
   exact he
  | succ k =>
   have:=hall k o' e' (by simpa using ho') (by simpa using he')
   simp only [aO]
   rw [if_pos (by simp)]
   rw [show i+1+k=i+(k+1) by omega] at this
   exact this
end
theorem zN {o:iX} {e:Option cw} {st:St} {t:Nat} (h:o.dst≠some t):(i3 o e st).tmps.getD t .dead=st.tmps.getD t .dead:=by
 cases hd:o.dst with
 | none=>cases e<;>simp [i3,zw,apply,hd]
 | some d =>
  have hne:d≠t:=fun e=>h (by rw [hd,e])
  cases e<;>simp [i3,zw,apply,hd,List.getD,List.getElem?_set_ne hne]
def aaT:Option cw->SV
 | some ef=>ef.val
 | none=>.tup []
theorem Cn {o:iX} {e:Option cw} {st:St} {t:Nat} (h:o.dst=some t):(i3 o e st).tmps.getD t .dead=if t<st.tmps.length then aaT e else .dead:=by
 cases e<;>simp only [i3,zw,apply,h,aaT,List.getD,List.getElem?_set,if_true]<;>split<;>rfl
theorem PU {o:iX} {e:Option cw} {st st':St} {t:Nat} (hl:st.tmps.length=st'.tmps.length) (h:st.tmps.getD t .dead=st'.tmps.getD t .dead) :
  (i3 o e st).tmps.getD t .dead=(i3 o e st').tmps.getD t .dead:=by
 by_cases hd:o.dst=some t
 ·rw [Cn hd,Cn hd,hl]
 ·rw [zN hd,zN hd,h]
theorem m7 {sel sel':Nat->Bool} {t:Nat}:∀ (l:List iX) (es:List (Option cw)) (i:Nat) (st st':St),st.tmps.length=st'.tmps.length->st.tmps.getD t .dead=st'.tmps.getD t .dead ->
  (∀ (k:Nat) o,l[k]? = some o->o.dst=some t->sel (i+k)=sel' (i+k))->(aO sel i l es st).tmps.getD t .dead=(aO sel' i l es st').tmps.getD t .dead
 | [],es,i,st,st',hl,h,_=>h
 | o::l,[],i,st,st',hl,h,_=>h
 | o::l,e::es,i,st,st',hl,h,hs=>by
  simp only [aO]
  refine m7 l es (i+1) _ _ ?_ ?_ fun k o' ho' hd=>?_
  ·split<;>split<;>simp [Cl,hl]
  ·by_cases hd:o.dst=some t
   ·have:=hs 0 o (by simp) hd
    simp only [Nat.add_zero] at this
    rw [this]
    split
    ·exact PU hl h
    ·exact h
   ·have h1 : ∀ (b : Bool) (s : St), (if b then i3 o e s else s).tmps.getD t .dead = s.tmps.getD t .dead := by
     intro b s
     cases b
     ·rfl
     ·exact zN hd
    rw [h1,h1,h]
  ·have:=hs (k+1) o' (by simpa using ho') hd
   rw [show i+1+k=i+(k+1) by omega]
   exact this
theorem LY {sel:Nat->Bool} {t:Nat} {o:iX} {e:Option cw}:∀ (l:List iX) (es:List (Option cw)) (i k:Nat) (st:St),l[k]? = some o->es[k]? = some e->o.dst=some t->sel (i+k)=true ->
  (∀ (k':Nat) o',k<k'->l[k']? = some o'->o'.dst=some t->sel (i+k')=false)->(aO sel i l es st).tmps.getD t .dead=if t<st.tmps.length then aaT e else .dead
 | [],es,i,k,st,ho,_,_,_,_=>by simp at ho
 | x::l,[],i,k,st,_,he,_,_,_=>by simp at he
 | x::l,y::es,i,0,st,ho,he,hd,hs,hno=>by
  simp at ho he
  subst ho he
  simp only [aO]
  rw [if_pos (show sel i=true from hs)]
  rw [m7 (sel':=fun _=>false) l es (i+1) _ (i3 x y st) rfl rfl fun k o' ho' hd'=>by
   have:=hno (k+1) o' (by omega) (by simpa using ho') hd'
   rw [show i+1+k=i+(k+1) by omega]
   exact this]
  have hno:∀ (l:List iX) (i:Nat) (es:List (Option cw)) (s:St),aO (fun _=>false) i l es s=s:=by
   intro l
   induction l with
   | nil=>intro i es s; rfl
   | cons x l ih =>
    intro i es s
    cases es with
    | nil=>rfl
    | cons y es=>exact ih (i+1) es s
  rw [hno,Cn hd]
 | x::l,y::es,i,k+1,st,ho,he,hd,hs,hno=>by
  simp only [aO]
  rw [LY l es (i+1) k _ (by simpa using ho) (by simpa using he) hd (by rw [show i+1+k=i+(k+1) by omega]; exact hs) fun k' o' hk ho' hd'=>by
   have:=hno (k'+1) o' (by omega) (by simpa using ho') hd'
   rw [show i+1+k'=i+(k'+1) by omega]
   exact this]
  split<;>simp [Cl]
def BU:Option cw->List (Nat×Ob)
 | some ef=>ef.upd
 | none=>[]
theorem xP (o:iX) (e:Option cw) (st:St):(i3 o e st).mem=st.mem.sets (BU e):=by
 cases e<;>rfl
theorem Co {q:Nat}:∀ (l:List (Nat×Ob)) (m m':ar),m.get q=m'.get q->(m.sets l).get q=(m'.sets l).get q
 | [],m,m',h=>h
 | (k,o)::l,m,m',h=>by
  simp only [ar.sets]
  refine Co l _ _ ?_
  rw [ar.get_set,ar.get_set,h]
theorem PV {q:Nat}:∀ (l:List (Nat×Ob)) (m m':ar),q∈aE l->(m.sets l).get q=(m'.sets l).get q
 | [],m,m',h=>by cases h
 | (k,o)::l,m,m',h=>by
  simp only [aE,List.mem_cons] at h
  simp only [ar.sets]
  by_cases hq:q=k
  ·refine Co l _ _ ?_
   rw [ar.get_set,ar.get_set,if_pos hq,if_pos hq]
  ·exact PV l _ _ (h.resolve_left hq)
theorem ES {q:Nat} (l:List (Nat×Ob)) (m:ar) (h:q ∉ aE l):(m.sets l).get q=m.get q :=
 ar.get_sets l m q fun o ho=>h (bf.2 ⟨o,ho⟩)
theorem pR {sel sel':Nat->Bool} {q:Nat}:∀ (l:List iX) (es:List (Option cw)) (i:Nat) (st st':St),st.mem.get q=st'.mem.get q ->
  (∀ (k:Nat) e,k<l.length->es[k]? = some e->q∈aE (BU e)->sel (i+k)=sel' (i+k))->(aO sel i l es st).mem.get q=(aO sel' i l es st').mem.get q
 | [],es,i,st,st',h,_=>h
 | o::l,[],i,st,st',h,_=>h
 | o::l,e::es,i,st,st',h,hs=>by
  simp only [aO]
  refine pR l es (i+1) _ _ ?_ fun k e' hk he' hd=>?_
  ·by_cases hd:q∈aE (BU e)
   ·have:=hs 0 e (by simp) (by simp) hd
    simp only [Nat.add_zero] at this
    rw [this]
    split
    ·rw [xP,xP]; exact Co _ _ _ h
    ·exact h
   ·have h1 : ∀ (b : Bool) (s : St), (if b then i3 o e s else s).mem.get q = s.mem.get q := by
     intro b s
     cases b
     ·rfl
     ·simp only [if_true]; rw [xP]; exact ES _ _ hd
    rw [h1,h1,h]
  ·have:=hs (k+1) e' (by simp; omega) (by simpa using he') hd
   rw [show i+1+k=i+(k+1) by omega]
   exact this
theorem SI {sel:Nat->Bool} {q:Nat} {e:Option cw}:∀ (l:List iX) (es:List (Option cw)) (i k:Nat) (st:St) (m:ar),k<l.length->es[k]? = some e->q∈aE (BU e)->sel (i+k)=true ->
  (∀ (k':Nat) e',k<k'->k'<l.length->es[k']? = some e'->q∈aE (BU e')->sel (i+k')=false)->(aO sel i l es st).mem.get q=(m.sets (BU e)).get q
 | [],es,i,k,st,m,ho,_,_,_,_=>by simp at ho
 | x::l,[],i,k,st,m,_,he,_,_,_=>by simp at he
 | x::l,y::es,i,0,st,m,ho,he,hd,hs,hno=>by
  simp at he
  subst he
  simp only [aO]
  rw [if_pos (show sel i=true from hs)]
  rw [pR (sel':=fun _=>false) l es (i+1) _ (i3 x y st) rfl fun k e' hk he' hd'=>by
   have:=hno (k+1) e' (by omega) (by simp; omega) (by simpa using he') hd'
   rw [show i+1+k=i+(k+1) by omega]
   exact this]
  have hno:∀ (l:List iX) (i:Nat) (es:List (Option cw)) (s:St),aO (fun _=>false) i l es s=s:=by
   intro l
   induction l with
   | nil=>intro i es s; rfl
   | cons x l ih =>
    intro i es s
    cases es with
    | nil=>rfl
    | cons y es=>exact ih (i+1) es s
  rw [hno,xP]
  exact PV _ _ _ hd
 | x::l,y::es,i,k+1,st,m,ho,he,hd,hs,hno=>by
  simp only [aO]
  exact SI l es (i+1) k _ m (by simp at ho; omega) (by simpa using he) hd (by rw [show i+1+k=i+(k+1) by omega]; exact hs) fun k' e' hk hk' he' hd'=>by
   have:=hno (k'+1) e' (by omega) (by simp; omega) (by simpa using he') hd'
   rw [show i+1+k'=i+(k'+1) by omega]
   exact this
structure FR (w:World) (A:Nat->Prop) (β:aP) (ts:List SV) (a:Act):Prop where
 len:a.tmps.size=ts.length
 val:TR w A β ts a
 defers:a.defers=[]
theorem MR.congr {w:World} {Z:Nat->Prop} {β:aP} {m m':ar} (h:MR w Z β m) (he:∀ q,m'.get q=m.get q):MR w Z β m' :=
 ⟨fun k o ho=>h.obs k o (he k▸ho),fun k l hl=>by rw [he]; exact h.dom k l hl,h.inj,h.apart,h.old⟩
theorem MR.drew {w:World} {Z:Nat->Prop} {β:aP} {m:ar} (h:MR w Z β m) {n:Nat}:MR { w with drawn:=n } Z β m:=by
 have hs:bX w { w with drawn:=n } β β:=⟨rfl,rfl,rfl,Nat.le_refl _,fun _ _ _=>rfl,fun _ h=>.inl h,aP.le_refl β⟩
 exact ⟨fun k o ho=>let ⟨l,hl,hob⟩:=h.obs k o ho; ⟨l,hl,hob.kept hs.stays hs.le fun _ _=>rfl⟩,h.dom,h.inj,h.apart,h.old⟩
theorem Act.getD_put (a:Act) (dst:Option Tmp) (v:Value) (t:Nat):(a.put dst v).tmps.getD t undef=if dst=some t then (if t<a.tmps.size then v else undef) else a.tmps.getD t undef:=by
 cases dst with
 | none=>simp [Act.put]
 | some d =>
  by_cases h:d=t
  ·subst h
   simp only [Act.put,if_true]
   simp only [Array.getD_eq_getD_getElem?,Array.getElem?_setIfInBounds,if_true]
   split<;>rfl
  ·simp [Act.put,h,Array.getElem?_setIfInBounds_ne h]
section
variable {P:Program} {cb:CB} {byRef:FuncId->CC} {ops:Array Oper} {ops2:List iX} {st:St} {es:List (Option cw)} {Z:Nat->Prop}
theorem pj {l:List Oper} {l2:List iX} (h:aY (jX P) l=some l2) {i:Nat} {o:Oper} (ho:l[i]? = some o) :
  ∃ o2,l2[i]? = some o2/\o2.dst=o.dst/\o2.guard=o.guard/\(zD P o=some o2.op∨o2.op=.no)/\o2.ahead=(o.after.toList.filter (Region.binds .any)).map (·.on):=by
 obtain ⟨o2,h2,hc⟩:=dN h i o ho
 unfold jX at hc
 split at hc
 ·rename_i op hop
  cases hc
  exact ⟨_,h2,rfl,rfl,.inl hop,rfl⟩
 ·cases hc
  exact ⟨_,h2,rfl,rfl,.inr rfl,rfl⟩
theorem PW (h:aY (jX P) ops.toList=some ops2) (j:Nat):pO ops2 j=(ops[j]?).bind (·.dst):=by
 unfold pO
 cases hj:ops[j]? with
 | none =>
  cases h2:ops2[j]? with
  | none=>rfl
  | some o2 =>
   obtain ⟨x,hx,_⟩:=xI h j o2 h2
   rw [Array.getElem?_toList] at hx
   rw [hj] at hx
   cases hx
 | some o =>
  obtain ⟨o2,h2,hd,_⟩:=pj h (i:=j) (o:=o) (by rw [Array.getElem?_toList]; exact hj)
  simp [h2,hd]
theorem acN (h:aY (jX P) ops.toList=some ops2) {o:Oper} {o2:iX} (hg:o2.guard=o.guard) {s:St} {b:Bool} (hw:gv ops2 o2 s b) {w:World} {A:Nat->Prop} {β:aP} {a:Act} (hT:TR w A β s.tmps a) :
  Region.wanted o (yielded ops a.tmps)=b:=by
 unfold gv at hw
 unfold Region.wanted
 rw [hg] at hw
 cases hgo:o.guard with
 | none=>rw [hgo] at hw; exact hw.symm
 | some p =>
  obtain ⟨j,want⟩:=p
  rw [hgo] at hw
  obtain ⟨t,h1,hw⟩:=hw
  rw [PW h] at h1
  have h3:=hT t
  rcases hw with ⟨c,h2,rfl⟩ | ⟨h2,rfl⟩
  rotate_left
  ·rw [h2] at h3
   simp only [SV.R,SV.RL] at h3
   obtain ⟨vs,h3,rfl⟩:=h3
   have h4:a.tmps[t]? = none∨a.tmps[t]? = some (.tuple #[]):=by
    rw [Array.getD_eq_getD_getElem?] at h3
    cases h5:a.tmps[t]? with
    | none=>exact .inl rfl
    | some v=>rw [h5] at h3; simp at h3; rw [h3]; exact .inr rfl
   rcases h4 with h4 | h4<;>simp only [yielded,h1,Option.bind_some,h4]<;>cases want<;>rfl
  rw [h2] at h3
  simp only [SV.R] at h3
  have h4:a.tmps[t]? = some (.bool c):=by
   rw [Array.getD_eq_getD_getElem?] at h3
   cases h5:a.tmps[t]? with
   | none=>rw [h5] at h3; simp [undef] at h3
   | some v=>rw [h5] at h3; simp at h3; rw [h3]
  simp only [yielded,h1,Option.bind_some,h4]
  cases c<;>cases want<;>rfl
structure Reg (P:Program) (cb:CB) (byRef:FuncId->CC) (ops:Array Oper) (ops2:List iX) (st:St) (es:List (Option cw)):Prop where
 comp:aY (jX P) ops.toList=some ops2
 len:es.length=ops2.length
 came:∀ (k:Nat) o e,ops2[k]? = some o->es[k]? = some e->acM cb byRef ops2 o (aO (fun j=>decide (j<k)) 0 ops2 es st) e
theorem uJ {a b:List Nat} (h:zx a b=true) {k:Nat} (h1:k∈a) (h2:k∈b):False:=by
 have:=List.all_eq_true.1 h k h1
 simp [h2] at this
theorem SJ (hn:cb.Nat) (hcb:cb.CallsOK P) (R:Reg P cb byRef ops ops2 st es) {sel:Nat->Bool} {i:Nat} {oi:iX} {ei:Option cw} (hoi:ops2[i]? = some oi) (hei:es[i]? = some ei) (hsel:sel i = false)
  (hfree:∀ (j:Nat) oj ej,ops2[j]? = some oj->es[j]? = some ej->j≠i->sel j=decide (j<i)∨(j<i/\yf ops2 oj oi ej ei=true)∨(i<j/\yf ops2 oi oj ei ej=true))
  {w:World} {β:aP} {a:Act} (hF:FR w (β.away Z) β (aO sel 0 ops2 es st).tmps a) (hm:MR w Z β (aO sel 0 ops2 es st).mem)
  {K:Act->World->Prop} {Q:Exit->Act->World->Prop}
  (hK:∀ a' w' β',bX w w' β β'->FR w' (β'.away Z) β' (aO (fun j=>sel j||j==i) 0 ops2 es st).tmps a'->MR w' Z β' (aO (fun j=>sel j||j==i) 0 ops2 es st).mem->K a' w'):wpOp P ops Q i K a w:=by
 have hlt:i<ops2.length:=(List.getElem?_eq_some_iff.1 hoi).1
 have hes:∀ j:Nat,j<ops2.length->∃ ej,es[j]? = some ej:=fun j hj=>⟨_,List.getElem?_eq_getElem (by rw [R.len]; exact hj)⟩
 -- the slots that it looks at
 have hslot:∀ t,t∈oi.looks ops2->(aO sel 0 ops2 es st).tmps.getD t .dead=(aO (fun j=>decide (j<i)) 0 ops2 es st).tmps.getD t .dead:=by
  intro t ht
  refine m7 ops2 es 0 st st rfl rfl fun k o ho hd=>?_
  rw [Nat.zero_add]
  by_cases hk:k=i
  ·subst hk; simp [hsel]
  ·obtain ⟨ek,hek⟩:=hes k (List.getElem?_eq_some_iff.1 ho).1
   rcases hfree k o ek ho hek hk with h | ⟨h1,h⟩ | ⟨h1,h⟩
   ·exact h
   ·simp [yf,hd,ht] at h
   ·simp [yf,hd,ht] at h
 have hmem:∀ ef,ei=some ef->∀ q,q∈ef.fp->(aO sel 0 ops2 es st).mem.get q=(aO (fun j=>decide (j<i)) 0 ops2 es st).mem.get q:=by
  intro ef hef q hq
  refine pR ops2 es 0 st st rfl fun k e hk he hu=>?_
  rw [Nat.zero_add]
  by_cases hki:k=i
  ·subst hki; simp [hsel]
  ·have ho:ops2[k]? = some ops2[k]:=List.getElem?_eq_getElem hk
   cases e with
   | none=>cases hu
   | some ek =>
    rcases hfree k _ _ ho he hki with h | ⟨h1,h⟩ | ⟨h1,h⟩
    ·exact h
    ·simp only [yf,hef,Bool.and_eq_true] at h
     exact (uJ h.2.1 hu (List.mem_append_left _ hq)).elim
    ·simp only [yf,hef,Bool.and_eq_true] at h
     exact (uJ h.2.2 hu (List.mem_append_left _ hq)).elim
 have hlast:∀ (k':Nat) o' t,i<k'->ops2[k']? = some o'->o'.dst=some t->oi.dst=some t->sel k'=false:=by
  intro k' o' t hk ho' hd hd'
  obtain ⟨ek,hek⟩:=hes k' (List.getElem?_eq_some_iff.1 ho').1
  rcases hfree k' o' ek ho' hek (by omega) with h | ⟨h1,h⟩ | ⟨h1,h⟩
  ·rw [h]; simp; omega
  ·omega
  ·simp [yf,hd,hd'] at h
 have hlastm:∀ (k':Nat) e' q,i<k'->k'<ops2.length->es[k']? = some e'->q∈aE (BU e')->q∈aE (BU ei)->sel k'=false:=by
  intro k' e' q hk hk' he' hq hq'
  rcases hfree k' _ e' (List.getElem?_eq_getElem hk') he' (by omega) with h | ⟨h1,h⟩ | ⟨h1,h⟩
  ·rw [h]; simp; omega
  ·omega
  ·cases e' with
   | none=>cases hq
   | some e' =>
    cases ei with
    | none=>cases hq'
    | some ef =>
     simp only [yf,Bool.and_eq_true] at h
     exact (uJ h.2.2 hq (List.mem_append_right _ hq')).elim
 -- what comes of it
 have hnew:∀ {w':World} {β':aP} {v:Value},bX w w' β β'->MR w' Z β' ((aO sel 0 ops2 es st).mem.sets (BU ei))->(aaT ei).R w' (β'.away Z) β' v->K (a.put oi.dst v) w':=by
  intro w' β' v hs hm' hv
  refine hK _ w' β' hs ⟨?_,fun t=>?_,?_⟩ (hm'.congr fun q=>?_)
  ·have:(a.put oi.dst v).tmps.size=a.tmps.size:=by cases oi.dst<;>simp [Act.put]
   rw [this,hF.len,fV,fV]
  ·rw [Act.getD_put]
   by_cases hd:oi.dst=some t
   ·rw [if_pos hd, LY ops2 es 0 i st hoi hei hd (by simp) fun k' o' hk ho' hd' => by
     rw [Nat.zero_add]
     simp only [hlast k' o' t hk ho' hd' hd,Bool.false_or,beq_eq_false_iff_ne]
     omega]
    have hl:=hF.len
    rw [fV] at hl
    rw [hl]
    split
    ·exact hv
    ·trivial
   ·rw [if_neg hd, m7 (sel' := sel) ops2 es 0 st st rfl rfl fun k o ho hd' => by
     have:k≠i:=by
      rintro rfl
      rw [hoi] at ho
      cases ho
      exact hd hd'
     simp [this]]
    exact SV.R_step hs.stays hs.le _ _ (hF.val t)
  ·have:(a.put oi.dst v).defers=a.defers:=by cases oi.dst<;>rfl
   rw [this,hF.defers]
  ·by_cases hq:q∈aE (BU ei)
   ·exact SI ops2 es 0 i st _ hlt hei hq (by simp) fun k' e' hk hk' he' hq' => by
     rw [Nat.zero_add]
     simp only [hlastm k' e' q hk hk' he' hq' hq,Bool.false_or,beq_eq_false_iff_ne]
     omega
   ·rw [ES _ _ hq]
    refine pR ops2 es 0 st st rfl fun k e hk he hu=>?_
    have:k≠i:=by
     rintro rfl
     rw [hei] at he
     cases he
     exact hq hu
    simp [this]
 -- the model
 unfold wpOp
 cases hoo:ops[i]? with
 | none =>
  obtain ⟨x,hx,_⟩:=xI R.comp i oi hoi
  rw [Array.getElem?_toList,hoo] at hx
  cases hx
 | some o =>
  obtain ⟨o2,h2,hd,hg,hc,_⟩:=pj R.comp (i:=i) (o:=o) (by rw [Array.getElem?_toList]; exact hoo)
  rw [hoi] at h2
  cases h2
  dsimp only
  have hcame:=R.came i oi ei hoi hei
  have hwant:∀ b,gv ops2 oi (aO (fun j=>decide (j<i)) 0 ops2 es st) b->Region.wanted o (yielded ops a.tmps)=b:=by
   intro b hb
   refine acN R.comp hg (s:=aO sel 0 ops2 es st) ?_ hF.val
   unfold gv at hb ⊢
   cases hgo:oi.guard with
   | none=>rw [hgo] at hb; exact hb
   | some p =>
    obtain ⟨j,want⟩:=p
    rw [hgo] at hb
    obtain ⟨t,h1,h2⟩:=hb
    refine ⟨t,h1,?_⟩
    rw [hslot t ?_]
    ·exact h2
    ·simp [iX.looks,hgo,h1]
  cases hei':ei with
  | none =>
   rw [hei'] at hcame
   rw [hwant false hcame,if_neg (by simp),← hd]
   exact hnew (bX.refl w β) (by rw [hei']; exact hm) (by rw [hei']; exact ⟨[],rfl,rfl⟩)
  | some ef =>
   rw [hei'] at hcame
   obtain ⟨h1,h3⟩:=hcame
   rw [hwant true h1,if_pos rfl]
   refine .inl ?_
   have h4:=ao3 hn h3 (ts':=(aO sel 0 ops2 es st).tmps) (m':=(aO sel 0 ops2 es st).mem) (fun t ht=>hslot t (by
    simp only [iX.looks]; exact List.mem_append_left _ ht)) (fun k hk=>hmem ef hei' k hk)
   rw [hd] at h4
   have hc:zD P o=some oi.op:=by
    rcases hc with hc | hc
    ·exact hc
    ·rw [hc] at h4; cases h4
   refine aF3 hn hcb hc hF.val hm h4 K Q fun v w' hpost=>?_
   obtain ⟨β',hs,hm',hv⟩:=hpost
   rw [← hd]
   exact hnew hs (by rw [hei']; exact hm') (by rw [hei']; exact hv)
theorem Vx (hn:cb.Nat) (hcb:cb.CallsOK P) (R:Reg P cb byRef ops ops2 st es) {w0:World} {β0:aP} {Q:Exit->Act->World->Prop}
  (hQ:∀ a' w' β',bX w0 w' β0 β'->FR w' (β'.away Z) β' (aO (fun _=>true) 0 ops2 es st).tmps a'->MR w' Z β' (aO (fun _=>true) 0 ops2 es st).mem->Q .normal a' w') :
  ∀ (n i:Nat) (β:aP) (a:Act) (w:World),i+n=ops2.length->bX w0 w β0 β->FR w (β.away Z) β (aO (fun j=>decide (j<i)) 0 ops2 es st).tmps a->MR w Z β (aO (fun j=>decide (j<i)) 0 ops2 es st).mem ->
   wpOps P ops Q (List.range' i n) a w:=by
 intro n
 induction n with
 | zero =>
  intro i β a w hi hs hF hm
  have h1:∀ t,(aO (fun j=>decide (j<i)) 0 ops2 es st).tmps.getD t .dead=(aO (fun _=>true) 0 ops2 es st).tmps.getD t .dead:=fun t =>
   m7 ops2 es 0 st st rfl rfl fun k o ho _=>by
    have:=(List.getElem?_eq_some_iff.1 ho).1
    simp; omega
  refine hQ a w β hs ⟨by rw [hF.len,fV,fV],fun t=>h1 t▸hF.val t,hF.defers⟩ (hm.congr fun q=>(pR ops2 es 0 st st rfl fun k e hk _ _=>by simp; omega).symm)
 | succ n ih =>
  intro i β a w hi hs hF hm
  rw [List.range'_succ,wpOps_cons]
  have hlt:i<ops2.length:=by omega
  have hes:es[i]? = some (es[i]'(by rw [R.len]; exact hlt)):=List.getElem?_eq_getElem _
  refine SJ hn hcb R (List.getElem?_eq_getElem hlt) hes (sel:=fun j=>decide (j<i)) (by simp) (fun j oj ej _ _ _=>.inl rfl) hF hm fun a' w' β' hs' hF' hm'=>?_
  have e:(fun j=>decide (j<i)||j==i)=fun j=>decide (j<i+1):=by
   funext j
   rw [Bool.eq_iff_iff]
   simp
   omega
  rw [e] at hF' hm'
  exact ih (i+1) β' a' w' (by omega) (hs.trans hs') hF' hm'
theorem LZ:∀ (l:List Bool) (i:Nat),l[i]? = some false->(l.set i true).count false+1=l.count false
 | [],i,h=>by simp at h
 | x::l,0,h=>by simp at h; subst h; simp
 | x::l,i+1,h=>by
  have:=LZ l i (by simpa using h)
  simp only [List.set_cons_succ,List.count_cons]
  omega
theorem Hk:∀ (l:List iX) (k i:Nat) (o:iX),uk k l=true->l[i]? = some o->∀ j,j∈o.ahead->j<k+i
 | [],k,i,o,_,h,_,_=>by simp at h
 | x::l,k,0,o,ha,h,j,hj=>by
  simp at h
  subst h
  simp only [uk,Bool.and_eq_true] at ha
  have:=List.all_eq_true.1 ha.1.1 j hj
  simpa using this
 | x::l,k,i+1,o,ha,h,j,hj=>by
  simp only [uk,Bool.and_eq_true] at ha
  have:=Hk l (k+1) i o ha.2 (by simpa using h) j hj
  omega
inductive Cp (l:List iX):Nat->Nat->Prop where
 | one {j i:Nat} {o:iX} (h:l[j]? = some o) (hi:i∈o.ahead):Cp l j i
 | more {j j' i:Nat} {o:iX} (h:l[j]? = some o) (hj:j'∈o.ahead) (k:Cp l j' i):Cp l j i
theorem ET {l:List iX} {S:Nat->Prop} (hS:∀ (j:Nat) o,S j->l[j]? = some o->∀ i,i∈o.ahead->S i):∀ {j i:Nat},Cp l j i->(∀ o,l[j]? = some o->∀ i,i∈o.ahead->S i)->S i:=by
 intro j i h
 induction h with
 | one h hi=>intro hd; exact hd _ h _ hi
 | more h hj k ih=>intro hd; exact ih fun o ho i hi=>hS _ o (hd _ h _ hj) ho i hi
theorem acO {β:Type} (n:Nat) (k:Nat->β):Gw n k=k n:=by cases n<;>rfl
theorem Hl (k i:Nat):(Nat.shiftLeft 1 k).testBit i=decide (k=i):=by
 show ((1 <<< k:Nat)).testBit i=_
 rw [Nat.one_shiftLeft,Nat.testBit_two_pow]
theorem fS:∀ (l:List Nat) (i:Nat),(dj l).testBit i=decide (i∈l)
 | [],i=>by simp [dj]
 | k::l,i=>by
  show (Nat.shiftLeft 1 k ||| dj l).testBit i=_
  rw [Nat.testBit_or,Hl,fS l i,Bool.eq_iff_iff,Bool.or_eq_true,decide_eq_true_eq,decide_eq_true_eq,decide_eq_true_eq,List.mem_cons]
  exact ⟨fun h=>h.imp Eq.symm id,fun h=>h.imp Eq.symm id⟩
theorem Vy (m i:Nat):Vi m i=m.testBit i:=by
 unfold Vi Nat.testBit
 show Nat.beq ((m >>> i) &&& 1) 1=(1 &&& (m >>> i) != 0)
 rw [Nat.and_comm,Nat.one_and_eq_mod_two]
 rcases Nat.mod_two_eq_zero_or_one (m >>> i) with h | h<;>rw [h]<;>rfl
theorem Ku {a b:Nat} (h:apart a b=true) (i:Nat) (ha:a.testBit i=true) (hb:b.testBit i=true):False:=by
 have h0:a &&& b=0:=Nat.eq_of_beq_eq_true h
 have:=Nat.testBit_and a b i
 rw [h0,ha,hb,Nat.zero_testBit] at this
 cases this
theorem w8 {l l':List Nat} (h:apart (dj l) (dj l')=true) {k:Nat} (hk:k∈l):k ∉ l':=fun hk' =>
 Ku h k (by rw [fS]; simpa using hk) (by rw [fS]; simpa using hk')
theorem EU {l l' l'':List Nat} (h:apart (dj l) (Nat.lor (dj l') (dj l''))=true) {k:Nat} (hk:k∈l):k ∉ l'/\k ∉ l'':=by
 have key:∀ x:Bool,(dj l' ||| dj l'').testBit k=x->x=true->False:=fun x hx hx2=>Ku h k (by rw [fS]; simpa using hk) (hx.trans hx2)
 constructor<;>intro hk'<;>refine key _ (Nat.testBit_or _ _ _) ?_<;>rw [fS,fS]<;>simp [hk']
theorem ut {l l':List Nat} (h:apart (dj l) (dj l')=true):zx l l'=true:=by
 unfold zx
 refine List.all_eq_true.2 fun k hk=>?_
 simpa using w8 h hk
structure ao4 (ops2:List iX) (es:List (Option cw)) (p:PM) (o:iX):Prop where
 get:ops2[p.i]? = some o
 d:p.d=dj o.dst.toList
 l:p.l=dj (o.looks ops2)
 u:p.u=dj (azD (es.getD p.i none))
 f:p.f=dj (azE (es.getD p.i none))
 am:∀ k,p.am.testBit k=true->Cp ops2 p.i k
theorem SK {ops2:List iX} {es:List (Option cw)} {p q:PM} {x y:iX} (hp:ao4 ops2 es p x) (hq:ao4 ops2 es q y) (h:PG p q=true):yf ops2 x y (es.getD p.i none) (es.getD q.i none)=true:=by
 unfold PG at h
 simp only [Bool.and_eq_true] at h
 obtain ⟨h1,h2,h3,h4⟩:=h
 rw [hp.d,hq.l,hq.d] at h1
 rw [hq.d,hp.l] at h2
 rw [hp.u,hq.f] at h3
 rw [hq.u,hp.f] at h4
 unfold yf
 simp only [Bool.and_eq_true]
 refine ⟨⟨?_,?_⟩,?_⟩
 ·cases hd:x.dst with
  | none=>rfl
  | some d =>
   rw [hd] at h1
   have:=EU h1 (k:=d) (by simp)
   simp only [Bool.and_eq_true]
   refine ⟨by simpa using this.1,?_⟩
   have h2:=this.2
   cases hy:y.dst with
   | none=>rfl
   | some d'=>rw [hy] at h2; simp at h2 ⊢; exact fun e=>h2 e.symm
 ·cases hd:y.dst with
  | none=>rfl
  | some d =>
   rw [hd] at h2
   have:=w8 h2 (k:=d) (by simp)
   simpa using this
 ·cases hx:es.getD p.i none with
  | none=>rfl
  | some a =>
   cases hy:es.getD q.i none with
   | none=>rfl
   | some b =>
    rw [hx,hy] at h3 h4
    simp only [Bool.and_eq_true]
    exact ⟨ut h3,ut h4⟩
theorem xQ {q:PM}:∀ {l:List PM},EF q l=true->∀ p,p∈l->q.am.testBit p.i=true∨PG p q=true
 | [],_,p,hp=>by cases hp
 | x::l,h,p,hp=>by
  simp only [EF] at h
  split at h
  ·rename_i hb
   rcases List.mem_cons.1 hp with rfl | hp
   ·exact .inl (by rw [← Vy]; exact hb)
   ·exact xQ h p hp
  ·split at h
   ·rename_i hb
    rcases List.mem_cons.1 hp with rfl | hp
    ·exact .inr hb
    ·exact xQ h p hp
   ·cases h
theorem Hm {j k:Nat}:∀ {l:List PM},(Gx j l).testBit k=true->∃ p,p∈l/\p.i=j/\p.am.testBit k=true
 | [],h=>by simp [Gx] at h
 | p::l,h=>by
  simp only [Gx] at h
  split at h
  ·rename_i hb
   exact ⟨p,List.mem_cons_self,Nat.eq_of_beq_eq_true hb,h⟩
  ·obtain ⟨q,hq,h1⟩:=Hm h
   exact ⟨q,List.mem_cons_of_mem _ hq,h1⟩
theorem zO {prev:List PM} {k:Nat}:∀ {l:List Nat},(pP prev l).testBit k=true->∃ j,j∈l/\(k=j∨∃ p,p∈prev/\p.i=j/\p.am.testBit k=true)
 | [],h=>by simp [pP] at h
 | j::l,h=>by
  have h:((Nat.shiftLeft 1 j ||| Gx j prev) ||| pP prev l).testBit k=true:=h
  rw [Nat.testBit_or,Nat.testBit_or,Hl] at h
  simp only [Bool.or_eq_true,decide_eq_true_eq] at h
  rcases h with (h | h) | h
  ·exact ⟨j,List.mem_cons_self,.inl h.symm⟩
  ·exact ⟨j,List.mem_cons_self,.inr (Hm h)⟩
  ·obtain ⟨j',hj',h1⟩:=zO h
   exact ⟨j',List.mem_cons_of_mem _ hj',h1⟩
theorem Cq {ops2:List iX} {es:List (Option cw)}:∀ (rest:List iX) (er:List (Option cw)) (n:Nat) (prev:List PM),aaL ops2 rest er n prev=true->ops2.drop n=rest->es.drop n=er ->
  (∀ p,p∈prev->∃ o,ao4 ops2 es p o)->(∀ i,i<n->∃ p,p∈prev/\p.i=i) ->
  ∀ (i j:Nat) x y,n<=j->i<j->ops2[i]? = some x->ops2[j]? = some y->Cp ops2 j i∨yf ops2 x y (es.getD i none) (es.getD j none)=true
 | [],er,n,prev,h,hr,he,hp,hc,i,j,x,y,hn,hij,hx,hy=>by
  have:ops2.length<=n:=by
   have:=congrArg List.length hr
   simp at this
   omega
  have:=(List.getElem?_eq_some_iff.1 hy).1
  omega
 | o::rest,er,n,prev,h,hr,he,hp,hc,i,j,x,y,hn,hij,hx,hy=>by
  have hget:ops2[n]? = some o:=by
   have:(ops2.drop n)[0]? = some o:=by rw [hr]; rfl
   simpa using this
  have hes:er.headD none=es.getD n none:=by
   rw [← he]
   simp [List.getD,List.head?_drop,List.headD_eq_head?_getD]
  simp only [aaL,alh,acO] at h
  split at h
  rotate_left
  ·cases h
  rename_i hchk
  have hq:ao4 ops2 es ⟨n,pP prev o.ahead,dj o.dst.toList,dj (o.looks ops2),dj (azD (er.headD none)),dj (azE (er.headD none))⟩ o:=by
   refine ⟨hget,rfl,rfl,by rw [hes],by rw [hes],fun k hk=>?_⟩
   obtain ⟨j,hj,hk⟩:=zO hk
   rcases hk with rfl | ⟨p,hpm,hpi,hk⟩
   ·exact .one hget hj
   ·obtain ⟨o',hp'⟩:=hp p hpm
    subst hpi
    exact .more hget hj (hp'.am k hk)
  by_cases hnj:j=n
  ·subst hnj
   obtain rfl:o=y:=Option.some.inj (hget.symm.trans hy)
   obtain ⟨p,hpm,rfl⟩:=hc i hij
   obtain ⟨o',hp'⟩:=hp p hpm
   obtain rfl:o'=x:=Option.some.inj (hp'.get.symm.trans hx)
   rcases xQ hchk p hpm with h1 | h1
   ·exact .inl (hq.am _ h1)
   ·exact .inr (SK hp' hq h1)
  ·refine Cq rest er.tail (n+1) _ h ?_ ?_ ?_ ?_ i j x y (by omega) hij hx hy
   ·rw [← List.tail_drop,hr]; rfl
   ·rw [← List.tail_drop,he]
   ·intro p hpm
    rcases List.mem_cons.1 hpm with rfl | hpm
    ·exact ⟨o,hq⟩
    ·exact hp p hpm
   ·intro i hi
    by_cases h':i=n
    ·exact ⟨_,List.mem_cons_self,h'.symm⟩
    ·obtain ⟨p,hpm,hpi⟩:=hc i (by omega)
     exact ⟨p,List.mem_cons_of_mem _ hpm,hpi⟩
theorem L0 (hn:cb.Nat) (hcb:cb.CallsOK P) (R:Reg P cb byRef ops ops2 st es) (hah:uk 0 ops2 = true) (hfr:∀ (i j:Nat) x y,i < j->ops2[i]? = some x->ops2[j]? = some y->Cp ops2 j i∨yf ops2 x y (es.getD i none) (es.getD j none) = true) {w0:World} {β0:aP} {Q:Exit->Act->World->Prop}
  (hQ:∀ a' w' β',bX w0 w' β0 β'->FR w' (β'.away Z) β' (aO (fun _=>true) 0 ops2 es st).tmps a'->MR w' Z β' (aO (fun _=>true) 0 ops2 es st).mem->Q .normal a' w') :
  ∀ (fuel:Nat) (listed:Array Bool) (β:aP) (a:Act) (w:World),listed.size=ops2.length->listed.toList.count false<=fuel ->
   (∀ (j:Nat) o,listed.getD j false=true->ops2[j]? = some o->∀ i,i∈o.ahead->listed.getD i false=true) ->
   bX w0 w β0 β->FR w (β.away Z) β (aO (fun j=>listed.getD j false) 0 ops2 es st).tmps a->MR w Z β (aO (fun j=>listed.getD j false) 0 ops2 es st).mem ->
   wpAny P .any ops Q fuel listed a w:=by
 have hsz:ops.size=ops2.length:=by have:=c9 R.comp; simpa using this.symm
 intro fuel
 -- where nothing is ready,all is done
 have hdone:∀ (listed:Array Bool),listed.size=ops2.length->Region.ready .any ops listed=[]->∀ i,i<ops2.length->listed.getD i false=true:=by
  intro listed hsize hr i
  induction i using Nat.strongRecOn with
  | ind i ih =>
   intro hi
   cases hli:listed.getD i false with
   | true=>rfl
   | false =>
    exfalso
    have hio:i<ops.size:=by omega
    have:i∈Region.ready .any ops listed:=by
     refine mem_ready.2 ⟨?_,ops[i],by simp [hio],fun e he hb=>?_⟩
     ·have:i<listed.size:=by omega
      simp [this] at hli ⊢
      exact hli
     ·obtain ⟨o2,h2,_,_,_,hahd⟩:=pj R.comp (i:=i) (o:=ops[i]) (by simp [hio])
      have hmem:e.on∈o2.ahead:=by
       rw [hahd]
       exact List.mem_map.2 ⟨e,List.mem_filter.2 ⟨by simpa using he,hb⟩,rfl⟩
      have:=Hk ops2 0 i o2 hah h2 e.on hmem
      exact ih e.on (by omega) (by omega)
    rw [hr] at this
    cases this
 have hfin:∀ (listed:Array Bool) (β:aP) (a:Act) (w:World),listed.size=ops2.length->Region.ready .any ops listed=[]->bX w0 w β0 β->FR w (β.away Z) β (aO (fun j=>listed.getD j false) 0 ops2 es st).tmps a->MR w Z β (aO (fun j=>listed.getD j false) 0 ops2 es st).mem->Q .normal a w:=by
  intro listed β a w hsize hr hs hF hm
  have hall:=hdone listed hsize hr
  refine hQ a w β hs ⟨by rw [hF.len,fV,fV],fun t=>?_,hF.defers⟩ (hm.congr fun q=>(pR ops2 es 0 st st rfl fun k e hk _ _=>by rw [Nat.zero_add]; exact hall k hk).symm)
  rw [← m7 (sel:=fun j=>listed.getD j false) ops2 es 0 st st rfl rfl fun k o ho _=>by rw [Nat.zero_add]; exact hall k (List.getElem?_eq_some_iff.1 ho).1]
  exact hF.val t
 induction fuel with
 | zero =>
  intro listed β a w hsize hcount hcl hs hF hm
  have hr:Region.ready .any ops listed=[]:=by
   cases hr:Region.ready .any ops listed with
   | nil=>rfl
   | cons i l =>
    have hi:i∈Region.ready .any ops listed:=by rw [hr]; exact List.mem_cons_self
    obtain ⟨h1,_⟩:=mem_ready.1 hi
    have:false∈listed.toList:=by
     rcases Nat.lt_or_ge i listed.size with h | h
     ·simp [h] at h1
      rw [← h1]
      simp
     ·simp [Array.getElem?_eq_none h] at h1
    have:=List.count_pos_iff.2 this
    omega
  exact ⟨hr,hfin listed β a w hsize hr hs hF hm⟩
 | succ fuel ih =>
  intro listed β a w hsize hcount hcl hs hF hm
  refine ⟨fun hr=>hfin listed β a w hsize hr hs hF hm,fun i hi=>?_⟩
  obtain ⟨hun,o,ho,hall⟩:=mem_ready.1 hi
  have hil:i<listed.size:=by
   rcases Nat.lt_or_ge i listed.size with h | h
   ·exact h
   ·simp [Array.getElem?_eq_none h] at hun
  have hunf:listed.getD i false=false:=by simp [hil] at hun ⊢; exact hun
  obtain ⟨oi,hoi,_,_,_,hahd⟩:=pj R.comp (i:=i) (o:=o) (by rw [Array.getElem?_toList]; exact ho)
  have hei:es[i]? = some (es[i]'(by rw [R.len]; omega)):=List.getElem?_eq_getElem _
  have hdirect:∀ j,j∈oi.ahead->listed.getD j false=true:=by
   intro j hj
   rw [hahd] at hj
   obtain ⟨e,he,rfl⟩:=List.mem_map.1 hj
   rw [List.mem_filter] at he
   exact hall e (by simpa using he.1) he.2
  have hgetD:∀ (j:Nat) ej,es[j]? = some ej->es.getD j none=ej:=fun j ej h=>by simp [List.getD,h]
  refine SJ hn hcb R hoi hei (sel:=fun j=>listed.getD j false) hunf (fun j oj ej hoj hej hji=>?_) hF hm fun a' w' β' hs' hF' hm'=>?_
  ·have hspec:=hfr
   rcases Nat.lt_or_ge j i with hlt | hge
   ·have:=hspec j i oj oi hlt hoj hoi
    rw [hgetD j ej hej,hgetD i _ hei] at this
    rcases this with h | h
    ·left
     have:=ET (S:=fun k=>listed.getD k false=true) (fun j o h1 h2 i h3=>hcl j o h1 h2 i h3) h (fun o' ho' k hk=>by rw [hoi] at ho'; cases ho'; exact hdirect k hk)
     simp only [this,hlt,decide_true]
    ·exact .inr (.inl ⟨hlt,h⟩)
   ·have hlt:i<j:=by omega
    have:=hspec i j oi oj hlt hoi hoj
    rw [hgetD j ej hej,hgetD i _ hei] at this
    rcases this with h | h
    ·left
     cases hlj:listed.getD j false with
     | false=>simp; omega
     | true =>
      have:=ET (S:=fun k=>listed.getD k false=true) (fun j o h1 h2 i h3=>hcl j o h1 h2 i h3) h (fun o' ho' k hk=>hcl j o' hlj ho' k hk)
      rw [hunf] at this
      cases this
    ·exact .inr (.inr ⟨hlt,h⟩)
  ·have e : (fun j => listed.getD j false || j == i) = fun j => (listed.setIfInBounds i true).getD j false := by
    funext j
    by_cases h:i=j
    ·subst h
     simp [hil]
    ·rw [getD_set_ne false h]
     have:(j==i)=false:=by simp; omega
     rw [this,Bool.or_false]
   rw [e] at hF' hm'
   refine ih _ β' a' w' (by simp [hsize]) ?_ (fun j o' hj ho' k hk=>?_) (hs.trans hs') hF' hm'
   ·have h1 : listed.toList[i]? = some false := by
     simp [hil] at hunf ⊢
     exact hunf
    have:=LZ listed.toList i h1
    simp only [Array.toList_setIfInBounds]
    omega
   ·by_cases h:i=j
    ·subst h
     rw [hoi] at ho'
     cases ho'
     exact getD_set_true (hdirect k hk)
    ·rw [getD_set_ne false h] at hj
     exact getD_set_true (hcl j o' hj ho' k hk)
theorem EV (hn:cb.Nat) (hcb:cb.CallsOK P) {id:Nat} {draw:Bool} (hmix:P.follows .mixedOrders=true) (hc:aY (jX P) ops.toList=some ops2) (hah:uk 0 ops2=true) {st':St} {tr:List (Option cw)}
  (hrun:fG cb byRef ops2 ops2 st [] (fun s t=>some (s,t))=some (st',tr)) (hany:draw=true->nj ops2 tr=true) {w:World} {β:aP} {a:Act} (hF:FR w (β.away Z) β st.tmps a) (hm:MR w Z β st.mem)
  {Q:Exit->Act->World->Prop} (hQ:∀ a' w' β',bX w w' β β'->FR w' (β'.away Z) β' st'.tmps a'->MR w' Z β' st'.mem->Q .normal a' w'):(Code.region id ops draw).wp P Q a w:=by
 obtain ⟨es,hl,htr,rfl,hcame⟩:=Cm hn ops2 0 st [] _ _ hrun
 have hsz:ops.size=ops2.length:=by have:=c9 hc; simpa using this.symm
 have R:Reg P cb byRef ops ops2 st es:=⟨hc,hl,fun k o e ho he=>by simpa using hcame k o e ho he⟩
 have hno:∀ (l:List iX) (i:Nat) (es:List (Option cw)) (s:St),aO (fun _=>false) i l es s=s:=by
  intro l
  induction l with
  | nil=>intro i es s; rfl
  | cons x l ih =>
   intro i es s
   cases es with
   | nil=>rfl
   | cons y es=>exact ih (i+1) es s
 cases draw with
 | false =>
  refine wp_region ?_
  rw [List.range_eq_range',hsz]
  have e:(fun j=>decide (j<0))=fun _=>false:=by funext j; simp
  exact Vx hn hcb R hQ ops2.length 0 β a w (by omega) (bX.refl w β) (by rw [e,hno]; exact hF) (by rw [e,hno]; exact hm)
 | true =>
  refine wp_region_any hmix ?_
  have hd:bX w { w with drawn:=w.drawn+1 } β β:=⟨rfl,rfl,rfl,Nat.le_refl _,fun _ _ _=>rfl,fun _ h=>.inl h,aP.le_refl β⟩
  have e:(fun j=>(Array.replicate ops.size false).getD j false)=fun _=>false:=by
   funext j
   by_cases h:j<ops.size<;>simp [h]
  have hfr:=hany rfl
  rw [htr] at hfr
  simp only [nj,List.append_nil,List.reverse_reverse] at hfr
  replace hfr:=fun i j x y hij hx hy=>Cq (es:=es) ops2 es 0 [] hfr rfl rfl (fun p hp=>by cases hp) (fun i hi=>by omega) i j x y (Nat.zero_le _) hij hx hy
  refine L0 hn hcb R hah hfr hQ ops.size _ β a _ (by simp [hsz]) ?_ (fun j o hj=>?_) hd (by rw [e,hno]; exact ⟨hF.len,fun t=>SV.R_step hd.stays hd.le _ _ (hF.val t),hF.defers⟩) (by rw [e,hno]; exact hm.drew)
  ·simp [List.count_replicate]
  ·rw [congrFun e j] at hj; cases hj
end
structure cK (w w':World) (β β':aP):Prop where
 os:w'.os=w.os
 tape:w'.tape=w.tape
 output:w'.output=w.output
 size:w.heap.size<=w'.heap.size
 block:∀ b,b<w.heap.size->¬ β.owned b->w'.heap[b]? = w.heap[b]?
 own:∀ b,β'.owned b->β.owned b∨w.heap.size<=b
 le:∀ k l,k<500->β k=some l->∃ l',β' k=some l'/\l.le l'
theorem bX.weak {w w':World} {β β':aP} (h:bX w w' β β'):cK w w' β β':=⟨h.os,h.tape,h.output,h.size,h.block,h.own,fun k l _ hl=>h.le k l hl⟩
theorem cK.refl (w:World) (β:aP):cK w w β β:=(bX.refl w β).weak
theorem cK.trans {w w1 w2:World} {β β1 β2:aP} (h:cK w w1 β β1) (k:cK w1 w2 β1 β2):cK w w2 β β2 :=
 ⟨k.os.trans h.os,k.tape.trans h.tape,k.output.trans h.output,Nat.le_trans h.size k.size,
  fun b hb ho=>(k.block b (Nat.lt_of_lt_of_le hb h.size) (fun h1=>(h.own b h1).elim ho (by omega))).trans (h.block b hb ho),
  fun b hb=>(k.own b hb).elim (fun h1=>h.own b h1) (fun h1=>.inr (Nat.le_trans h.size h1)),fun q l hq hl=>by
   obtain ⟨l1,h1,e1⟩:=h.le q l hq hl
   obtain ⟨l2,h2,e2⟩:=k.le q l1 hq h1
   exact ⟨l2,h2,e1.trans e2⟩⟩
def yl (ρ:Nat->Option Nat) (m:ar):ar:=m.filterMap fun x=>match ρ x.1 with | some k=>some (k,x.2.ren ρ) | none=>none
theorem Hn {ρ:Nat->Option Nat} {q:Nat}:∀ (m:ar),(∀ k,k∈aE m->ρ k≠some q)->(yl ρ m).get q=none
 | [],_=>rfl
 | (k,o)::m,h=>by
  have hr:=Hn m fun k' hk'=>h k' (by simp [aE,hk'])
  have hk:=h k (by simp [aE])
  simp only [yl,List.filterMap_cons] at hr ⊢
  cases hρ:ρ k with
  | none=>exact hr
  | some k' =>
   simp only [ar.get]
   rw [if_neg ?_]
   ·exact hr
   ·rintro rfl
    exact hk hρ
theorem zP {ρ:Nat->Option Nat} {q k:Nat} (hk:ρ k=some q):∀ (m:ar),(∀ k',k'∈aE m->ρ k'=some q->k'=k)->(yl ρ m).get q=(m.get k).map (Ob.ren ρ)
 | [],_=>rfl
 | (k',o)::m,h=>by
  have hr:=zP hk m fun k' hk'=>h k' (by simp [aE,hk'])
  have hk':=h k' (by simp [aE])
  simp only [yl,List.filterMap_cons] at hr ⊢
  by_cases hkk:k=k'
  ·subst hkk
   simp [hk,ar.get]
  ·simp only [ar.get,if_neg hkk]
   cases hρ:ρ k' with
   | none=>exact hr
   | some q' =>
    simp only [ar.get]
    rw [if_neg ?_]
    ·exact hr
    ·rintro rfl
     exact hkk (hk' hρ).symm
theorem fI {m:ar} {k:Nat}:k∈aE m↔∃ o,m.get k=some o:=by
 induction m with
 | nil=>simp [aE,ar.get]
 | cons x m ih =>
  obtain ⟨k',o⟩:=x
  simp only [aE,List.mem_cons,ih,ar.get]
  by_cases h:k=k'
  ·simp [h]
  ·simp [h]
section
variable {w:World} {Z:Nat->Prop} {β β':aP} {m:ar} {ts:List SV} {a:Act}
theorem alJ (hm:MR w Z β m) {ρ:Nat->Option Nat} (h1:∀ k l q,β k=some l->ρ k=some q->β' q=some l) (h2:∀ q l,β' q=some l->∃ k,ρ k=some q/\β k=some l)
  (hinj:∀ k k' q,k∈aE m->k'∈aE m->ρ k=some q->ρ k'=some q->k=k') :
  MR w Z β' (yl ρ m)/\(∀ b,β'.owned b->β.owned b)/\∀ (x:SV) (v:Value),x.R w (β.away Z) β v->(x.ren ρ).R w (β'.away Z) β' v:=by
 have hown:∀ b,β'.owned b->β.owned b:=by
  rintro b ⟨q,l,hq,hb⟩
  obtain ⟨k,_,hk⟩:=h2 q l hq
  exact ⟨k,l,hk,hb⟩
 have hst:cE w w (β.away Z) (β'.away Z):=⟨Nat.le_refl _,fun b _ hb=>⟨rfl,fun h=>hb (h.imp (hown b) id)⟩⟩
 have hin:∀ k l,β k=some l->k∈aE m:=fun k l hl=>by
  obtain ⟨o,ho⟩:=hm.dom k l hl
  exact fI.2 ⟨o,ho⟩
 refine ⟨⟨fun q o ho=>?_,fun q l hl=>?_,fun q q' l l' b hl hl' hb hb'=>?_,fun b hb=>hm.apart b (hown b hb),hm.old⟩,hown,fun x v hx=>SV.ren_R hst h1 x v hx⟩
 ·by_cases he:∃ k,k∈aE m/\ρ k=some q
  ·obtain ⟨k,hk,hρ⟩:=he
   rw [zP hρ m fun k' hk' hρ'=>hinj k' k q hk' hk hρ' hρ] at ho
   obtain ⟨o0,ho0,rfl⟩:=Option.map_eq_some_iff.1 ho
   obtain ⟨l,hl,hob⟩:=hm.obs k o0 ho0
   exact ⟨l,h1 k l q hl hρ,hob.ren hst h1⟩
  ·rw [Hn m fun k hk hρ=>he ⟨k,hk,hρ⟩] at ho
   cases ho
 ·obtain ⟨k,hρ,hk⟩:=h2 q l hl
  obtain ⟨o,ho⟩:=hm.dom k l hk
  rw [zP hρ m fun k' hk' hρ'=>hinj k' k q hk' (hin k l hk) hρ' hρ,ho]
  exact ⟨_,rfl⟩
 ·obtain ⟨k,hρ,hk⟩:=h2 q l hl
  obtain ⟨k',hρ',hk'⟩:=h2 q' l' hl'
  have:=hm.inj k k' l l' b hk hk' hb hb'
  subst this
  rw [hρ] at hρ'
  cases hρ'
  rfl
theorem GO (ρ:Nat->Option Nat):∀ (l:List SV) (i:Nat),(SV.ren.renL ρ l).getD i .dead=(l.getD i .dead).ren ρ
 | [],i=>by simp [SV.ren.renL,SV.ren]
 | x::l,0=>by simp [SV.ren.renL]
 | x::l,i+1=>by
  have:=GO ρ l i
  simpa [SV.ren.renL] using this
theorem zQ (ρ:Nat->Option Nat):∀ (l:List SV),(SV.ren.renL ρ l).length=l.length
 | []=>rfl
 | x::l=>by simp [SV.ren.renL,zQ ρ l]
theorem xb (hF:FR w (β.away Z) β ts a) (hm:MR w Z β m) {ρ:Nat->Option Nat} (hρ:∀ k q,ρ k=some q->q=k) (hlow:∀ k l,k<500->β k=some l->ρ k=some k) :
  ∃ β',cK w w β β'/\FR w (β'.away Z) β' (SV.ren.renL ρ ts) a/\MR w Z β' (yl ρ m):=by
 obtain ⟨h1, h2, h3⟩ := alJ (β' := fun q => if ρ q = some q then β q else none) hm (ρ := ρ) (fun k l q hk hq => by
   have:=hρ k q hq
   subst this
   simp only [hq,if_true,hk]) (fun q l hl=>by
   try dsimp only at hl
   split at hl
   ·rename_i h; exact ⟨q,h,hl⟩
   ·cases hl) (fun k k' q _ _ h h'=>by rw [← hρ k q h,← hρ k' q h'])
 refine ⟨_,⟨rfl,rfl,rfl,Nat.le_refl _,fun _ _ _=>rfl,fun b hb=>.inl (h2 b hb),fun k l hk hl=>⟨l,?_,.refl l⟩⟩,⟨by rw [zQ]; exact hF.len,fun i=>by rw [GO]; exact h3 _ _ (hF.val i),hF.defers⟩,h1⟩
 try dsimp only
 rw [if_pos (hlow k l hk hl)]
 exact hl
theorem Vz (hF:FR w (β.away Z) β ts a) (hm:MR w Z β m) {k:Nat} (hk:β k=none):cK w w β (β.put k .gone)/\FR w ((β.put k .gone).away Z) (β.put k .gone) ts a/\MR w Z (β.put k .gone) (m.set k .gone):=by
 have hs:bX w w β (β.put k .gone):=⟨rfl,rfl,rfl,Nat.le_refl _,fun _ _ _=>rfl,fun b hb=>by
  obtain ⟨q,l,hq,ho⟩:=hb
  simp only [aP.put] at hq
  split at hq
  ·cases hq; cases ho
  ·exact .inl ⟨q,l,hq,ho⟩,fun q l hq=>⟨l,by
  simp only [aP.put]
  rw [if_neg (fun e=>by rw [e,hk] at hq; cases hq)]
  exact hq,.refl l⟩⟩
 refine ⟨hs.weak,⟨hF.len,fun i=>SV.R_step hs.stays hs.le _ _ (hF.val i),hF.defers⟩,?_⟩
 refine hm.update (fun q=>q=k) hs (fun q hq=>⟨by simp [aP.put,hq],by rw [ar.get_set,if_neg hq]⟩) (fun _ _ _ _ _ _=>rfl) (fun q o hq hg=>?_) (fun q l hq hl=>?_) (fun q l b hq hl hb=>?_)
 ·subst hq
  rw [ar.get_set,if_pos rfl] at hg
  cases hg
  exact ⟨.gone,by simp [aP.put],trivial⟩
 ·subst hq
  exact ⟨.gone,by rw [ar.get_set,if_pos rfl]⟩
 ·subst hq
  simp [aP.put] at hl
  subst hl
  cases hb
theorem Cr {st:St} (hF:FR w (β.away Z) β st.tmps a) (hm:MR w Z β st.mem) {k key:Nat} (hkey:st.mem.get key=none) (hhigh:500<=key) (hne:k≠key) (hbox:∀ b,β k≠some (.box b)) :
  ∃ β',cK w w β β'/\FR w (β'.away Z) β' (ou k key st).tmps a/\MR w Z β' (ou k key st).mem:=by
 have hbk:=hm.none hkey
 have hren:∀ q,(fun q=>if q=k then some key else some q) q=some key->q≠key->q=k:=by
  intro q hq hqk
  dsimp only at hq
  split at hq
  ·assumption
  ·cases hq; exact absurd rfl hqk
 obtain ⟨h1, h2, h3⟩ := alJ (β' := fun q => if q = key then β k else if q = k then none else β q) hm (ρ := fun q => if q = k then some key else some q) (fun q l q' hq hq' => by
   try dsimp only at hq' ⊢
   split at hq'
   ·rename_i h; subst h; cases hq'; rw [if_pos rfl]; exact hq
   ·rename_i h
    cases hq'
    rw [if_neg ?_,if_neg h]
    ·exact hq
    ·rintro rfl; rw [hbk] at hq; cases hq) (fun q l hl=>by
   try dsimp only at hl ⊢
   split at hl
   ·rename_i h; exact ⟨k,by simp [h],hl⟩
   ·split at hl
    ·cases hl
    ·rename_i h; exact ⟨q,by simp [h],hl⟩) (fun x y q hx hy h h'=>by
   have hnx:x≠key:=by rintro rfl; obtain ⟨o,ho⟩:=fI.1 hx; rw [hkey] at ho; cases ho
   have hny:y≠key:=by rintro rfl; obtain ⟨o,ho⟩:=fI.1 hy; rw [hkey] at ho; cases ho
   try dsimp only at h h'
   split at h<;>split at h'<;>simp_all)
 have hF1:FR w ((aP.away (fun q=>if q=key then β k else if q=k then none else β q)) Z) (fun q=>if q=key then β k else if q=k then none else β q) (SV.ren.renL (fun q=>if q=k then some key else some q) st.tmps) a :=
  ⟨by rw [zQ]; exact hF.len,fun i=>by rw [GO]; exact h3 _ _ (hF.val i),hF.defers⟩
 unfold ou
 cases hlow:decide (k<500) with
 | false =>
  refine ⟨_,⟨rfl,rfl,rfl,Nat.le_refl _,fun _ _ _=>rfl,fun b hb=>.inl (h2 b hb),fun q l hq hl=>⟨l,?_,.refl l⟩⟩,hF1,h1⟩
  have hk:¬ k<500:=by simpa using hlow
  try dsimp only
  rw [if_neg (by omega),if_neg (by omega)]
  exact hl
 | true =>
  have hk:k<500:=by simpa using hlow
  obtain ⟨g1,g2,g3⟩:=Vz hF1 h1 (k:=k) (by simp [hne])
  refine ⟨_,⟨rfl,rfl,rfl,Nat.le_refl _,fun _ _ _=>rfl,fun b hb=>(g1.own b hb).imp (h2 b) id,fun q l hq hl=>?_⟩,g2,g3⟩
  simp only [aP.put]
  by_cases hqk:q=k
  ·subst hqk
   rw [if_pos rfl]
   -- what had the name is gone
   cases hl0:l with
   | box b=>exact (hbox b (by rw [hl,hl0])).elim
   | _=>exact ⟨.gone,rfl,.gone _ (by intro b h; cases h)⟩
  ·rw [if_neg hqk,if_neg (by omega),if_neg hqk]
   exact ⟨l,hl,.refl l⟩
theorem azK {b:Nat} {l:LK} (h:(LK.box b).le l):l=.box b∨l=.gone:=by
 cases h with
 | refl=>exact .inl rfl
 | gone _ hb=>exact (hb b rfl).elim
 | box=>exact .inr rfl
def cH.isAt (a:cH) (q:Nat):Bool :=
 match a with
 | .slot _=>false
 | .cell k _=>q==k
theorem L1 {st:St} {m1:ar} {at_:cH} {x y:SV} (hget:at_.get st=x) (hne:x≠.dead) (hs:bX w w β β') (hF:FR w (β.away Z) β st.tmps a) (hm:MR w Z β st.mem) (hm1:MR w Z β' m1)
  (hsame:∀ q cs,st.mem.get q=some (.cells cs)->m1.get q=some (.cells cs)) (hxy:∀ v,x.R w (β.away Z) β v->y.R w (β'.away Z) β' v) :
  FR w (β'.away Z) β' (at_.put y st).tmps a/\∀ m2:ar,(∀ q,m2.get q=(if at_.isAt q=true then (at_.put y st).mem.get q else m1.get q))->MR w Z β' m2:=by
 cases at_ with
 | slot t =>
  simp only [cH.get] at hget
  simp only [cH.put]
  refine ⟨⟨by simpa using hF.len,fun i=>?_,hF.defers⟩,fun m2 h2=>hm1.congr fun q=>by simpa [cH.isAt] using h2 q⟩
  by_cases hi:t=i
  ·subst hi
   have hv:=hF.val t
   rw [hget] at hv
   simp only [List.getD,List.getElem?_set,if_true]
   split
   ·exact hxy _ hv
   ·trivial
  ·simp only [List.getD,List.getElem?_set_ne hi]
   exact SV.R_step hs.stays hs.le _ _ (hF.val i)
 | cell k off =>
  simp only [cH.get] at hget
  simp only [cH.put]
  cases hk:st.mem.get k with
  | none=>rw [hk] at hget; exact (hne hget.symm).elim
  | some o =>
   rw [hk] at hget
   cases o with
   | cells cs =>
    dsimp only at hget ⊢
    refine ⟨⟨hF.len,fun i=>SV.R_step hs.stays hs.le _ _ (hF.val i),hF.defers⟩,fun m2 h2=>?_⟩
    have h1k:=hsame k cs hk
    have h2k:m2.get k=some (.cells (cs.set off y)):=by
     rw [h2 k,if_pos (by simp [cH.isAt]),ar.get_set,if_pos rfl]
    refine hm1.update (fun q=>q=k) (bX.refl w _) (fun q hq=>⟨rfl,by rw [h2 q,if_neg (by simpa [cH.isAt] using hq)]⟩) (fun _ _ _ _ _ _=>rfl) (fun q o hq hg=>?_) (fun q l hq hl=>?_) (fun q l b hq hl hb=>?_)
    ·subst hq
     rw [h2k] at hg
     cases hg
     obtain ⟨l0,hl0,hob0⟩:=hm.obs q _ hk
     obtain ⟨l,hl,hob⟩:=hm1.obs q _ h1k
     cases l0 with
     | box b0 =>
      obtain ⟨l',hl',hle⟩:=hs.le q _ hl0
      rw [hl] at hl'
      cases hl'
      have hlb:l=.box b0:=by
       rcases azK hle with h | h
       ·exact h
       ·rw [h] at hob; exact hob.elim
      rw [hlb] at hl hob
      obtain ⟨vs0,t0,hh0,hrl0,_⟩:=hob0
      obtain ⟨vs,t,hh,hrl,h1⟩:=hob
      rw [hh] at hh0
      cases hh0
      refine ⟨_,hl,_,_,hh,SV.RL_of_get _ _ ?_ fun i x' v hx hv=>?_,h1⟩
      ·rw [List.length_set]; exact SV.RL_len _ _ hrl
      ·rw [List.getElem?_set] at hx
       split at hx
       ·rename_i hoi
        subst hoi
        split at hx
        ·rename_i hlt
         cases hx
         obtain ⟨u,hu,hr⟩:=SV.RL_get _ _ hrl0 off cs[off] (List.getElem?_eq_getElem hlt)
         rw [hv] at hu
         cases hu
         have:cs[off]=x:=by simpa [List.getD,List.getElem?_eq_getElem hlt] using hget
         rw [this] at hr
         exact hxy _ hr
        ·cases hx
       ·obtain ⟨u,hu,hr⟩:=SV.RL_get _ _ hrl i x' hx
        rw [hv] at hu
        cases hu
        exact hr
     | _=>exact hob0.elim
    ·subst hq
     exact ⟨_,h2k⟩
    ·exact ⟨hm1.apart b ⟨q,l,hl,hb⟩,fun k' l' hk' hb'=>hm1.inj k' q l' l b hk' hl hb' hb⟩
   | _=>exact (hne hget.symm).elim
theorem aaU (at_:cH) (y:SV) (st:St) (q:Nat) (h:∀ k off,at_=.cell k off->q≠k):(at_.put y st).mem.get q=st.mem.get q:=by
 cases at_ with
 | slot t=>rfl
 | cell k off =>
  simp only [cH.put]
  split
  ·rw [ar.get_set,if_neg (h k off rfl)]
  ·rfl
theorem VA {st:St} (hF:FR w (β.away Z) β st.tmps a) (hm:MR w Z β st.mem) {at_:cH} {key:Nat} {e:TypeId} {r:aw} (hn:at_.get st=.nils) (hkey:st.mem.get key=none) (h0:0<r.size) :
  ∃ β',cK w w β β'/\FR w (β'.away Z) β' (at_.put (.slw key) st).tmps a/\MR w Z β' ((at_.put (.slw key) st).mem.set key (.row e r [])):=by
 have hbk:=hm.none hkey
 have hs:bX w w β (β.put key (.row none 0 0 r.size e)):=⟨rfl,rfl,rfl,Nat.le_refl _,fun _ _ _=>rfl,fun b hb=>by
  obtain ⟨q,l,hq,ho⟩:=hb
  simp only [aP.put] at hq
  split at hq
  ·cases hq; cases ho
  ·exact .inl ⟨q,l,hq,ho⟩,fun q l hq=>⟨l,by
  simp only [aP.put]
  rw [if_neg (fun e=>by rw [e,hbk] at hq; cases hq)]
  exact hq,.refl l⟩⟩
 have hob:GR w ((β.put key (.row none 0 0 r.size e)).away Z) (β.put key (.row none 0 0 r.size e)) (.row none 0 0 r.size e) (.row e r []) :=
  ⟨rfl,rfl,h0,rfl,[],⟨by simp,rfl,rfl⟩,fun j hj=>absurd hj (by simp)⟩
 have hm1:MR w Z (β.put key (.row none 0 0 r.size e)) (st.mem.set key (.row e r [])):=by
  refine hm.update (fun q=>q=key) hs (fun q hq=>⟨by simp [aP.put,hq],by rw [ar.get_set,if_neg hq]⟩) (fun _ _ _ _ _ _=>rfl) (fun q o hq hg=>?_) (fun q l hq hl=>?_) (fun q l b hq hl hb=>?_)
  ·subst hq
   rw [ar.get_set,if_pos rfl] at hg
   cases hg
   exact ⟨_,by simp [aP.put],hob⟩
  ·subst hq
   exact ⟨_,by rw [ar.get_set,if_pos rfl]⟩
  ·subst hq
   simp [aP.put] at hl
   subst hl
   cases hb
 have hcell:∀ q cs,st.mem.get q=some (.cells cs)->q≠key:=by
  rintro q cs hq rfl
  rw [hkey] at hq
  cases hq
 obtain ⟨h1,h2⟩:=L1 (at_:=at_) (y:=.slw key) hn (by intro h; cases h) hs hF hm hm1 (fun q cs hq=>by rw [ar.get_set,if_neg (hcell q cs hq)]; exact hq) (fun v hv=>by
  simp only [SV.R] at hv ⊢
  subst hv
  exact ⟨.row none 0 0 r.size e,by simp [aP.put],none,0,rfl,Nat.le_refl _,Nat.le_refl _,rfl,fun _=>rfl⟩)
 refine ⟨_,hs.weak,h1,h2 _ fun q=>?_⟩
 rw [ar.get_set]
 by_cases hq:q=key
 ·rw [if_pos hq]
  split
  ·rename_i hc
   cases at_ with
   | slot t=>simp [cH.isAt] at hc
   | cell k off =>
    simp [cH.isAt] at hc
    subst hc
    simp only [cH.get] at hn
    rw [hq,hkey] at hn
    cases hn
  ·rw [ar.get_set,if_pos hq]
 ·rw [if_neg hq]
  split
  ·rfl
  ·rename_i hc
   rw [ar.get_set,if_neg hq]
   exact aaU _ _ _ _ (fun k off hk=>by subst hk; simpa [cH.isAt] using hc)
theorem uK {st:St} (hF:FR w (β.away Z) β st.tmps a) (hm:MR w Z β st.mem) {at_:cH} {k key off len:Nat} {e:TypeId} {r:aw} {xs:List r.T} (hn:at_.get st=.sl k off len) (hk:st.mem.get k=some (.row e r xs)) (hkey:st.mem.get key=none)
  (hhigh:500<=key) (hle:off+len<=xs.length) :
  ∃ β',cK w w β β'/\FR w (β'.away Z) β' (ui at_ k key (.row e r ((xs.drop off).take len)) st).tmps a/\MR w Z β' (ui at_ k key (.row e r ((xs.drop off).take len)) st).mem:=by
 have hbk:=hm.none hkey
 have hkk:k≠key:=by rintro rfl; rw [hkey] at hk; cases hk
 obtain ⟨l,hl,hob⟩:=hm.obs k _ hk
 cases l with
 | row ad cap n sz e' =>
  obtain ⟨he,hsz,h0,hn',cells,ho,hr⟩:=hob
  subst he hsz hn'
  have hs:bX w w β ((β.put k .gone).put key (.row (ad.map fun g=>⟨g.g,g.o+off*r.size⟩) (cap-off) len r.size e')):=⟨rfl,rfl,rfl,Nat.le_refl _,fun _ _ _=>rfl,fun b hb=>by
   obtain ⟨q,l,hq,ho⟩:=hb
   simp only [aP.put] at hq
   split at hq
   ·cases hq; exact .inl ⟨k,_,hl,by cases ad<;>exact ho⟩
   ·split at hq
    ·cases hq; cases ho
    ·exact .inl ⟨q,l,hq,ho⟩,fun q l hq=>by
   simp only [aP.put]
   rw [if_neg (fun e=>by rw [e,hbk] at hq; cases hq)]
   by_cases hqk:q=k
   ·subst hqk
    rw [hl] at hq
    cases hq
    exact ⟨.gone,by rw [if_pos rfl],.gone _ (by intro b h; cases h)⟩
   ·exact ⟨l,by rw [if_neg hqk]; exact hq,.refl l⟩⟩
  have hm1:MR w Z ((β.put k .gone).put key (.row (ad.map fun g=>⟨g.g,g.o+off*r.size⟩) (cap-off) len r.size e')) ((st.mem.set k .gone).set key (.row e' r ((xs.drop off).take len))):=by
   refine hm.update (fun q=>q=k∨q=key) hs (fun q hq=>?_) (fun _ _ _ _ _ _=>rfl) (fun q o hq hg=>?_) (fun q l hq hl'=>?_) (fun q l b hq hl' hb=>?_)
   ·rw [not_or] at hq
    exact ⟨by simp [aP.put,hq.1,hq.2],by rw [ar.get_set,if_neg hq.2,ar.get_set,if_neg hq.1]⟩
   ·rw [ar.get_set] at hg
    split at hg
    ·rename_i hqk
     subst hqk
     cases hg
     refine ⟨.row (ad.map fun g=>⟨g.g,g.o+off*r.size⟩) (cap-off) len r.size e',by simp [aP.put],rfl,rfl,h0,by simp; omega,(cells.drop (off*r.size)).take (len*r.size),ho.cut hle,((hr.stays hs.stays).drop off).take len⟩
    ·rename_i hqk
     have hq:=hq.resolve_right hqk
     subst hq
     rw [ar.get_set,if_pos rfl] at hg
     cases hg
     exact ⟨.gone,by simp [aP.put,hqk],trivial⟩
   ·rw [ar.get_set]
    split
    ·exact ⟨_,rfl⟩
    ·rename_i hqk
     rw [ar.get_set,if_pos (hq.resolve_right hqk)]
     exact ⟨_,rfl⟩
   ·simp only [aP.put] at hl'
    split at hl'
    ·rename_i hqk
     subst hqk
     cases hl'
     have hb:(LK.row ad cap xs.length r.size e').own=some b:=by cases ad<;>exact hb
     refine ⟨hm.apart b ⟨k,_,hl,hb⟩,fun k' l' hk' hb'=>?_⟩
     simp only [aP.put] at hk'
     split at hk'
     ·assumption
     ·split at hk'
      ·cases hk'; cases hb'
      ·rename_i h1 h2
       exact absurd (hm.inj k' k l' _ b hk' hl hb' hb) h2
    ·split at hl'
     ·cases hl'; cases hb
     ·rename_i h1 h2
      exact absurd hq (by simp [h1,h2])
  have hcell:∀ q cs,st.mem.get q=some (.cells cs)->q≠key/\q≠k:=by
   intro q cs hq
   refine ⟨?_,?_⟩
   ·rintro rfl; rw [hkey] at hq; cases hq
   ·rintro rfl; rw [hk] at hq; cases hq
  obtain ⟨h1,h2⟩:=L1 (at_:=at_) (y:=.slw key) hn (by intro h; cases h) hs hF hm hm1 (fun q cs hq=>by rw [ar.get_set,if_neg (hcell q cs hq).1,ar.get_set,if_neg (hcell q cs hq).2]; exact hq) (fun v hv=>by
   simp only [SV.R] at hv ⊢
   obtain ⟨l,hl2,hp⟩:=hv
   rw [hl] at hl2
   cases hl2
   refine ⟨.row (ad.map fun g=>⟨g.g,g.o+off*r.size⟩) (cap-off) len r.size e',by simp [aP.put],?_⟩
   obtain ⟨A',c,hv,hlc,hoff,hcap,ha⟩:=hp
   exact ⟨A',c,hv,hlc,by omega,by omega,fun h=>by rw [ha h]; cases ad<;>simp⟩)
  refine ⟨_,hs.weak,h1,h2 _ fun q=>?_⟩
  have hat:∀ kk off,at_=.cell kk off->kk≠key/\kk≠k:=by
   intro kk off hc
   subst hc
   simp only [cH.get] at hn
   cases hg:st.mem.get kk with
   | none=>rw [hg] at hn; cases hn
   | some o =>
    rw [hg] at hn
    cases o with
    | cells cs=>exact hcell kk cs hg
    | _=>cases hn
  simp only [ui]
  rw [ar.get_set,ar.get_set]
  split
  ·rename_i hq
   split
   ·rename_i hc
    cases at_ with
    | slot t=>simp [cH.isAt] at hc
    | cell kk off=>simp [cH.isAt] at hc; exact absurd (hc.symm.trans hq) (hat kk off rfl).1
   ·rw [ar.get_set,if_pos hq]
  ·rename_i hq
   split
   ·rename_i hqk
    split
    ·rename_i hc
     cases at_ with
     | slot t=>simp [cH.isAt] at hc
     | cell kk off=>simp [cH.isAt] at hc; exact absurd (hc.symm.trans hqk) (hat kk off rfl).2
    ·rw [ar.get_set,if_neg hq,ar.get_set,if_pos hqk]
   ·rename_i hqk
    split
    ·rfl
    ·rename_i hc
     rw [ar.get_set,if_neg hq,ar.get_set,if_neg hqk]
     exact aaU _ _ _ _ (fun kk off hk=>by subst hk; simpa [cH.isAt] using hc)
 | _=>exact hob.elim
theorem aF5 {st:St} (hF:FR w (β.away Z) β st.tmps a) (hm:MR w Z β st.mem) (at_:cH):∃ v,(at_.get st).R w (β.away Z) β v:=by
 cases at_ with
 | slot t=>exact ⟨_,hF.val t⟩
 | cell k off =>
  simp only [cH.get]
  cases hk:st.mem.get k with
  | none=>exact ⟨undef,trivial⟩
  | some o =>
   cases o with
   | cells cs =>
    obtain ⟨l,hl,hob⟩:=hm.obs k _ hk
    cases l with
    | box b =>
     obtain ⟨vs,t,hh,hrl,h1⟩:=hob
     dsimp only
     cases hc:cs[off]? with
     | none=>exact ⟨undef,by simp [List.getD,hc,SV.R]⟩
     | some x =>
      obtain ⟨u,hu,hr⟩:=SV.RL_get _ _ hrl off x hc
      exact ⟨u,by simpa [List.getD,hc] using hr⟩
    | _=>exact hob.elim
   | _=>exact ⟨undef,trivial⟩
theorem iS:∀ (l:List (cH×Nat×TypeId×aw)) {β:aP} {st st':St},zy l st=some st'->FR w (β.away Z) β st.tmps a->MR w Z β st.mem ->
  ∃ β',cK w w β β'/\FR w (β'.away Z) β' st'.tmps a/\MR w Z β' st'.mem
 | [],β,st,st',h,hF,hm=>by cases h; exact ⟨β,cK.refl w β,hF,hm⟩
 | (t,key,e,r)::l,β,st,st',h,hF,hm=>by
  simp only [zy] at h
  split at h
  ·rename_i hn
   split at h
   ·rename_i hc
    obtain ⟨hk,hh,h0⟩:=hc
    obtain ⟨β1,s1,f1,m1⟩:=VA (e:=e) hF hm hn (by simpa using hk) h0
    obtain ⟨β2,s2,f2,m2⟩:=iS l (st:={ tmps:=(t.put (.slw key) st).tmps,mem:=(t.put (.slw key) st).mem.set key (.row e r []) }) h f1 m1
    exact ⟨β2,s1.trans s2,f2,m2⟩
   ·cases h
  ·rename_i k off len hn
   split at h
   ·rename_i e' r' xs hg
    split at h
    ·rename_i hc
     obtain ⟨hne,hk,hh⟩:=hc
     obtain ⟨hle,h⟩:=aI h
     obtain ⟨β1,s1,f1,m1⟩:=uK hF hm hn hg (by simpa using hk) hh (by simpa using hle)
     obtain ⟨β2,s2,f2,m2⟩:=iS l h f1 m1
     exact ⟨β2,s1.trans s2,f2,m2⟩
    ·cases h
   ·cases h
  ·rename_i k hn
   split at h
   ·exact iS l h hF hm
   ·rename_i hne
    split at h
    ·rename_i hc
     obtain ⟨hk,hh⟩:=hc
     obtain ⟨v,hv⟩:=aF5 hF hm t
     rw [hn] at hv
     simp only [SV.R] at hv
     obtain ⟨lk,hlk,hp⟩:=hv
     obtain ⟨β1,s1,f1,m1⟩:=Cr hF hm (by simpa using hk) hh hne (fun b hb=>by
      rw [hlk] at hb
      cases hb
      exact hp)
     obtain ⟨β2,s2,f2,m2⟩:=iS l h f1 m1
     exact ⟨β2,s1.trans s2,f2,m2⟩
    ·cases h
  ·exact iS l h hF hm
  ·cases h
theorem uL (live:List Nat):∀ (l:List SV) (k i:Nat),(dq live k l).getD i .dead=if live.contains (k+i) then l.getD i .dead else .dead
 | [],k,i=>by simp [dq]
 | x::l,k,0=>by simp [dq]
 | x::l,k,i+1=>by
  have:=uL live l (k+1) i
  rw [show k+1+i=k+(i+1) by omega] at this
  simpa [dq] using this
theorem oH (live:List Nat):∀ (l:List SV) (k:Nat),(dq live k l).length=l.length
 | [],k=>rfl
 | x::l,k=>by simp [dq,oH live l]
theorem Kv {k q:Nat}:∀ {l:List Nat},q∈JX k l↔q=k∨q∈l
 | []=>by simp [JX]
 | x::l=>by
  simp only [JX]
  split
  ·simp
  ·split
   ·rename_i h; subst h; simp
   ·simp only [List.mem_cons,Kv]
    constructor
    ·rintro (h | h | h)
     ·exact .inr (.inl h)
     ·exact .inl h
     ·exact .inr (.inr h)
    ·rintro (h | h | h)
     ·exact .inr (.inl h)
     ·exact .inl h
     ·exact .inr (.inr h)
theorem EW {q:Nat}:∀ {l:List Nat},q∈zz l↔q∈l
 | []=>by simp [zz]
 | x::l=>by simp [zz,Kv,EW]
theorem Ho (m:ar) (q:Nat):∀ (l:List Nat),(Bw m l).get q=if q∈l then m.get q else none
 | []=>by simp [Bw,ar.get]
 | k::l=>by
  have ih:=Ho m q l
  simp only [Bw]
  by_cases hq:q=k
  ·subst hq
   cases hk:m.get q with
   | none=>simp only; rw [ih,hk]; simp
   | some o=>simp [ar.get]
  ·cases hk:m.get k with
   | none=>simp only; rw [ih]; simp [hq]
   | some o=>simp only [ar.get,if_neg hq]; rw [ih]; simp [hq]
theorem L2 (m:ar) (q:Nat):(aaM m).get q=m.get q:=by
 unfold aaM
 rw [Ho]
 split
 ·rfl
 ·rename_i h
  cases hq:m.get q with
  | none=>rfl
  | some o=>exact (h (EW.2 (fI.2 ⟨o,hq⟩))).elim
theorem Hp:β.freezeL []=β:=by
 funext q
 simp [aP.freezeL]
mutual
theorem SV.thaw_R {m:ar} (hm:MR w Z β m):(x:SV)->(v:Value)->x.R w (β.away Z) β v->(x.thaw m).R w (β.away Z) β v
 | .slw k,v,hr=>by
  simp only [SV.thaw]
  split
  ·rename_i e r xs hg
   have:=SV.pure_R hm (lent:=[]) (A':=β.away Z) (fun b hb=>by rwa [Hp]) (ρ:=fun q=>some q) (β':=β) (fun k l j hl hj=>by cases hj; exact hl) (.slw k) v (by intro q hq; simp [SV.lent,hg] at hq) hr
   simpa only [SV.pure,hg,SV.ren] using this
  ·exact hr
 | .sl k off len,v,hr=>by
  simp only [SV.thaw]
  split
  ·rename_i e r xs hg
   have:=SV.pure_R hm (lent:=[]) (A':=β.away Z) (fun b hb=>by rwa [Hp]) (ρ:=fun q=>some q) (β':=β) (fun k l j hl hj=>by cases hj; exact hl) (.sl k off len) v (by intro q hq; simp [SV.lent,hg] at hq) hr
   simpa only [SV.pure,hg,SV.ren] using this
  ·exact hr
 | .agg cs,v,hr=>by
  simp only [SV.thaw,SV.R] at hr ⊢
  obtain ⟨vs,hv,hl,h1⟩:=hr
  exact ⟨vs,hv,SV.thawL_R hm cs vs hl,h1⟩
 | .dead,_,hr=>hr
 | .int _ _,_,hr=>hr
 | .bool _,_,hr=>hr
 | .str _,_,hr=>hr
 | .ps _ _ _,_,hr=>hr
 | .nils,_,hr=>hr
 | .pe,_,hr=>hr
 | .ptr _ _ _,_,hr=>hr
 | .pptr _ _ _ _ _,_,hr=>hr
 | .nilp,_,hr=>hr
 | .tup _,_,hr=>hr
 | .fn _ _,_,hr=>hr
 | .nilf,_,hr=>hr
 | .nili,_,hr=>hr
 | .nilm,_,hr=>hr
 | .mp _,_,hr=>hr
 | .bsl _ _,_,hr=>hr
theorem SV.thawL_R {m:ar} (hm:MR w Z β m):(l:List SV)->(vs:List Value)->SV.RL w (β.away Z) β l vs->SV.RL w (β.away Z) β (SV.thaw.thawL m l) vs
 | [],vs,hr=>hr
 | x::l,vs,hr=>by
  simp only [SV.thaw.thawL,SV.RL] at hr ⊢
  obtain ⟨v,vs',hv,hx,hl⟩:=hr
  exact ⟨v,vs',hv,SV.thaw_R hm x v hx,SV.thawL_R hm l vs' hl⟩
end
theorem Kw (m:ar):∀ (l:List SV) (i:Nat),(SV.thaw.thawL m l).getD i .dead=(l.getD i .dead).thaw m
 | [],i=>by simp [SV.thaw.thawL,SV.thaw]
 | x::l,0=>by simp [SV.thaw.thawL]
 | x::l,i+1=>by
  have:=Kw m l i
  simpa [SV.thaw.thawL] using this
theorem EX (m:ar):∀ l:List SV,(SV.thaw.thawL m l).length=l.length
 | []=>rfl
 | x::l=>by simp [SV.thaw.thawL,EX m l]
theorem SL {an:cF} {st st':St} (h:lR.headOf0 an st=some st') (hF:FR w (β.away Z) β st.tmps a) (hm:MR w Z β st.mem) :
  ∃ β',cK w w β β'/\FR w (β'.away Z) β' st'.tmps a/\MR w Z β' st'.mem:=by
 unfold lR.headOf0 at h
 have hF0:FR w (β.away Z) β (dq an.live 0 st.tmps) a:=⟨by rw [oH]; exact hF.len,fun i=>by
  rw [uL]
  split
  ·exact hF.val i
  ·trivial,hF.defers⟩
 have hF1:FR w (β.away Z) β (SV.thaw.thawL st.mem (dq an.live 0 st.tmps)) a:=⟨by rw [EX]; exact hF0.len,fun i=>by
  rw [Kw]
  exact SV.thaw_R hm _ _ (hF0.val i),hF0.defers⟩
 obtain ⟨β1,s1,f1,m1⟩:=xb hF1 hm (ρ:=EG st.mem (SV.refs.refsL (SV.thaw.thawL st.mem (dq an.live 0 st.tmps))++st.mem.flatMap fun x=>x.2.refs)) (fun k q hq=>by
  unfold EG at hq
  split at hq
  ·split at hq
   ·cases hq; rfl
   ·cases hq
  ·split at hq
   ·cases hq; rfl
   ·split at hq
    ·cases hq; rfl
    ·cases hq
  ·cases hq; rfl) (fun k l hk hl=>by
  unfold EG
  split
  ·rw [if_pos hk]
  ·rw [if_pos hk]
  ·rfl)
 dsimp only at h
 split at h
 ·rename_i st2 hst2
  cases h
  obtain ⟨β2,s2,f2,m2⟩:=iS _ hst2 f1 m1
  obtain ⟨β3,s3,f3,m3⟩:=xb f2 m2 (ρ:=stays an st2.mem) (fun k q hq=>by
   unfold stays at hq
   split at hq
   ·split at hq
    ·cases hq; rfl
    ·cases hq
   ·split at hq
    ·split at hq
     ·cases hq
     ·cases hq; rfl
    ·split at hq
     ·cases hq
     ·cases hq; rfl
   ·cases hq) (fun k l hk hl=>by
   obtain ⟨o,ho⟩:=m2.dom k l hl
   have hn:¬ (500<=k/\an.inner.contains (100000+k)=true):=fun h=>by omega
   have hlt:k<1000:=by omega
   unfold stays
   rw [ho]
   cases o<;>simp only [hk,hn,hlt,if_true,if_false])
  exact ⟨β3,(s1.trans s2).trans s3,f3,m3.congr (L2 _)⟩
 ·cases h
theorem jn:∀ (l:List (cH×Nat×TypeId×aw)) {β:aP} {m:ar},MR w Z β m->∃ β',bX w w β β'/\MR w Z β' (uj l m)
 | [],β,m,hm=>⟨β,bX.refl w β,hm⟩
 | (t,q,e,r)::l,β,m,hm=>by
  unfold uj
  split
  ·split
   ·split
    ·rename_i k off _ cs hk
     obtain ⟨β1,s1,m1⟩:=Ko hm hk off
     obtain ⟨β2,s2,m2⟩:=jn l m1
     exact ⟨β2,s1.trans s2,m2⟩
    ·exact jn l hm
   ·exact jn l hm
  ·exact jn l hm
theorem pS {an:cF} {st st':St} (h:lR an st=some st') (hF:FR w (β.away Z) β st.tmps a) (hm:MR w Z β st.mem) :
  ∃ β',cK w w β β'/\FR w (β'.away Z) β' st'.tmps a/\MR w Z β' st'.mem:=by
 obtain ⟨β1,s1,m1⟩:=jn an.acc hm
 obtain ⟨β2,s2,f2,m2⟩:=SL (β:=β1) (st:={ st with mem:=uj an.acc st.mem }) h ⟨hF.len,fun i=>SV.R_step s1.stays s1.le _ _ (hF.val i),hF.defers⟩ m1
 exact ⟨β2,s1.weak.trans s2,f2,m2⟩
theorem Cs {an:cF} {st:St} (hF:FR w (β.away Z) β st.tmps a) (hm:MR w Z β st.mem) :
    ∃ β',cK w w β β'/\FR w (β'.away Z) β' (JY an st).tmps a/\MR w Z β' (JY an st).mem:=by
  have hF1:FR w (β.away Z) β (dq an.out 0 st.tmps) a:=⟨by rw [oH]; exact hF.len,fun i=>by
    rw [uL]
    split
    · exact hF.val i
    · trivial,hF.defers⟩
  have hgo : ∃ β', cK w w β β' /\ FR w (β'.away Z) β' (SV.ren.renL (fun k => if (lP st.mem 64 0 (jB ((aE st.mem).filter fun k => decide (k < 500)) (SV.refs.refsL (dq an.out 0 st.tmps)))).contains k then some k else none) (dq an.out 0 st.tmps)) a /\
      MR w Z β' (yl (fun k=>if (lP st.mem 64 0 (jB ((aE st.mem).filter fun k=>decide (k<500)) (SV.refs.refsL (dq an.out 0 st.tmps)))).contains k then some k else none) st.mem):=?_
  · obtain ⟨β',h1,h2,h3⟩:=hgo
    exact ⟨β',h1,h2,h3.congr (L2 _)⟩
  refine xb hF1 hm (fun k q hq=>?_) (fun k l hk hl=>?_)
  · try dsimp only at hq
    split at hq
    · cases hq; rfl
    · cases hq
  · try dsimp only
    rw [if_pos]
    obtain ⟨o,ho⟩:=hm.dom k l hl
    refine List.contains_iff_mem.2 (w7 _ _ _ _ (sX _ _ _ (List.mem_filter.2 ⟨fI.2 ⟨o,ho⟩,by simpa using hk⟩)))
end
section
variable {cb:CB} {byRef:FuncId->CC}
theorem dt {α:Type} (hn:cb.Nat):∀ (c:C2) (st:St) (K:iW->St->Option α),ov cb byRef c st K=(ov cb byRef c st fun o s=>some (o,s)).bind fun p=>K p.1 p.2
 | .skip,st,K=>rfl
 | .region ops draw,st,K=>by
  simp only [ov]
  cases draw with
  | false =>
   dsimp only
   rw [cQ hn]
   conv=>rhs; rw [cQ hn]
   rw [Option.bind_assoc]; rfl
  | true =>
   dsimp only
   rw [cQ hn]
   conv=>rhs; rw [cQ hn]
   rw [Option.bind_assoc]
   congr 1
   funext p
   cases nj ops p.2<;>rfl
 | .seq a b,st,K=>by
  simp only [ov]
  rw [dt hn a]
  conv=>rhs; rw [dt hn a]
  rw [Option.bind_assoc]
  congr 1
  funext p
  obtain ⟨o,s⟩:=p
  cases o with
  | norm=>exact dt hn b s K
  | exit id=>rfl
  | ret=>rfl
 | .cond c x y,st,K=>by
  cases c with
  | tmp t =>
   simp only [ov]
   cases st.tmps.getD t .dead with
   | bool b=>cases b<;>dsimp only<;>exact dt hn _ _ K
   | _=>rfl
  | k v =>
   cases v with
   | bool b=>cases b<;>simp only [ov]<;>exact dt hn _ _ K
   | _=>rfl
 | .block id b,st,K=>by
  simp only [ov]
  rw [dt hn b]
  conv=>rhs; rw [dt hn b]
  rw [Option.bind_assoc]
  congr 1
  funext p
  obtain ⟨o,s⟩:=p
  cases o with
  | norm=>rfl
  | exit q=>dsimp only; split<;>rfl
  | ret=>rfl
 | .loop an b,st,K=>by
  simp only [ov]
  cases lR an st with
  | none=>rfl
  | some s=>exact hn.loop an b s K
 | .join an b,st,K=>by
  simp only [ov]
  cases lR an st with
  | none=>rfl
  | some s=>exact hn.join an b s K
 | .exit id,st,K=>rfl
 | .ret,st,K=>rfl
 | .stuck,st,K=>rfl
end
def PX:iW->Exit
 | .norm=>.normal
 | .exit id=>.exit id
 | .ret=>.ret
def VB (P:Program) (c:Code) (st:St) (o:iW) (st':St):Prop :=
 ∀ (w:World) (Z:Nat->Prop) (β:aP) (a:Act) (Q:Exit->Act->World->Prop),FR w (β.away Z) β st.tmps a->MR w Z β st.mem ->
  (∀ a' w' β',cK w w' β β'->FR w' (β'.away Z) β' st'.tmps a'->MR w' Z β' st'.mem->Q (PX o) a' w')->c.wp P Q a w
def Kx (P:Program) (b:C2) (st:St) (o:iW) (st':St):Prop:=∀ (an:Nat->cF) (c:Code),cD P an c=some b->VB P (.loop c) st o st'
def EY (P:Program) (b:C2) (st:St) (o:iW) (st':St):Prop:=∀ (an:Nat->cF) (c:Code),cD P an c=some b->VB P c st o st'
def bP:C2->List (cF×C2)
 | .seq a b=>bP a++bP b
 | .cond _ x y=>bP x++bP y
 | .block _ b=>bP b
 | .loop an b=>(an,b)::bP b
 | .join an b=>(an,b)::bP b
 | _=>[]
structure CB.OK (P:Program) (B:cF->C2->Prop) (cb:CB):Prop where
 nat:cb.Nat
 calls:cb.CallsOK P
 loop:∀ {an:cF} {b:C2} {st st':St} {o:iW},B an b->cb.loop an b st (fun o s=>some (o,s))=some (o,st')->Kx P b st o st'
 join:∀ {an:cF} {b:C2} {st st':St} {o:iW},B an b->cb.join an b st (fun o s=>some (o,s))=some (o,st')->EY P b st o st'
section
variable {P:Program} {cb:CB} {byRef:FuncId->CC} {B:cF->C2->Prop}
theorem Ct (hcb:cb.OK P B) (hmix:P.follows .mixedOrders=true) {an:Nat->cF}:∀ (c:Code) {c2:C2} {st st':St} {o:iW},(∀ p,p∈bP c2->B p.1 p.2)->cD P an c=some c2->ov cb byRef c2 st (fun o s=>some (o,s))=some (o,st')->VB P c st o st':=by
 intro c
 induction c with
 | skip =>
  intro c2 st st' o hB hc h w Z β a Q hF hm hQ
  simp only [cD] at hc
  cases hc
  cases h
  exact wp_skip (hQ a w β (cK.refl w β) hF hm)
 | region id ops draw =>
  intro c2 st st' o hB hc h w Z β a Q hF hm hQ
  simp only [cD] at hc
  split at hc
  ·rename_i l hl
   split at hc
   ·rename_i hah
    cases hc
    simp only [ov] at h
    cases draw with
    | false =>
     dsimp only at h
     rw [cQ hcb.nat] at h
     obtain ⟨⟨s,tr⟩,hr,h⟩:=Option.bind_eq_some_iff.1 h
     cases h
     exact EV hcb.nat hcb.calls hmix hl hah hr (fun h=>by cases h) hF hm fun a' w' β' hs hF' hm'=>hQ a' w' β' hs.weak hF' hm'
    | true =>
     dsimp only at h
     rw [cQ hcb.nat] at h
     obtain ⟨⟨s,tr⟩,hr,h⟩:=Option.bind_eq_some_iff.1 h
     dsimp only at h
     split at h
     ·rename_i hany
      cases h
      exact EV hcb.nat hcb.calls hmix hl hah hr (fun _=>hany) hF hm fun a' w' β' hs hF' hm'=>hQ a' w' β' hs.weak hF' hm'
     ·cases h
   ·cases hc
  ·cases hc
 | seq x y ihx ihy =>
  intro c2 st st' o hB hc h w Z β a Q hF hm hQ
  simp only [cD] at hc
  split at hc
  ·rename_i x2 y2 hx hy
   cases hc
   simp only [ov] at h
   rw [dt hcb.nat] at h
   obtain ⟨⟨o1,s1⟩,h1,h⟩:=Option.bind_eq_some_iff.1 h
   refine wp_seq (ihx (fun p hp=>hB p (List.mem_append_left _ hp)) hx h1 w Z β a _ hF hm fun a' w' β' hs hF' hm'=>?_)
   cases o1 with
   | norm =>
    have hB2:∀ p,p∈bP (PJ an (cp y) y2)->B p.1 p.2:=fun p hp=>hB p (List.mem_append_right _ hp)
    dsimp only at h
    cases hj:Nat.beq (an (100000+cp y)).id (100000+cp y) with
    | false =>
     simp only [PJ,hj] at h hB2
     exact ihy hB2 hy h w' Z β' a' Q hF' hm' fun a2 w2 β2 hs2 hF2 hm2=>hQ a2 w2 β2 (hs.trans hs2) hF2 hm2
    | true =>
     simp only [PJ,hj] at h hB2
     simp only [ov] at h
     split at h
     ·cases h
     ·rename_i s2 hs2
      obtain ⟨β1,hw1,hF1,hm1⟩:=pS hs2 hF' hm'
      exact hcb.join (hB2 _ List.mem_cons_self) h an y hy w' Z β1 a' Q hF1 hm1 fun a2 w2 β2 hs2 hF2 hm2=>hQ a2 w2 β2 ((hs.trans hw1).trans hs2) hF2 hm2
   | exit id=>cases h; exact hQ a' w' β' hs hF' hm'
   | ret=>cases h; exact hQ a' w' β' hs hF' hm'
  ·cases hc
 | cond cd x y ihx ihy =>
  intro c2 st st' o hB hc h w Z β a Q hF hm hQ
  simp only [cD] at hc
  split at hc
  ·rename_i cd2 x2 y2 hcd hx hy
   cases hc
   have hcond:=bx hF.val hcd
   cases cd2 with
   | tmp t =>
    simp only [ov] at h
    simp only [jp.ev] at hcond
    split at h
    ·rename_i b hb
     rw [hb] at hcond
     simp only [SV.R] at hcond
     have hset:st.tmps.set t (.bool b)=st.tmps:=Kt _ _ _ hb
     cases b with
     | true =>
      dsimp only at h
      rw [hset] at h
      exact wp_cond_true hcond (ihx (fun p hp=>hB p (List.mem_append_left _ hp)) hx h w Z β a Q hF hm hQ)
     | false =>
      dsimp only at h
      rw [hset] at h
      exact wp_cond_false hcond (ihy (fun p hp=>hB p (List.mem_append_right _ hp)) hy h w Z β a Q hF hm hQ)
    ·cases h
   | k v =>
    cases v with
    | bool b =>
     simp only [jp.ev,SV.R] at hcond
     cases b with
     | true=>exact wp_cond_true hcond (ihx (fun p hp=>hB p (List.mem_append_left _ hp)) hx h w Z β a Q hF hm hQ)
     | false=>exact wp_cond_false hcond (ihy (fun p hp=>hB p (List.mem_append_right _ hp)) hy h w Z β a Q hF hm hQ)
    | _=>cases h
  ·cases hc
 | block id b ih =>
  intro c2 st st' o hB hc h w Z β a Q hF hm hQ
  simp only [cD] at hc
  obtain ⟨b2,hb,rfl⟩:=eA hc
  simp only [ov] at h
  rw [dt hcb.nat] at h
  obtain ⟨⟨o1,s1⟩,h1,h⟩:=Option.bind_eq_some_iff.1 h
  refine wp_block (ih (c2:=b2) hB hb h1 w Z β a _ hF hm fun a' w' β' hs hF' hm'=>?_)
  cases o1 with
  | norm=>cases h; exact hQ a' w' β' hs hF' hm'
  | exit q =>
   dsimp only at h
   simp only [PX,Exit.inBlock]
   split at h
   ·rename_i hq
    cases h
    rw [if_pos hq]
    exact hQ a' w' β' hs hF' hm'
   ·rename_i hq
    cases h
    rw [if_neg hq]
    exact hQ a' w' β' hs hF' hm'
  | ret=>cases h; exact hQ a' w' β' hs hF' hm'
 | loop b ih =>
  intro c2 st st' o hB hc h w Z β a Q hF hm hQ
  simp only [cD] at hc
  obtain ⟨b2,hb,rfl⟩:=eA hc
  simp only [ov] at h
  split at h
  ·cases h
  ·rename_i s1 hs1
   obtain ⟨β1,hw1,hF1,hm1⟩:=pS hs1 hF hm
   exact hcb.loop (hB _ List.mem_cons_self) h an b hb w Z β1 a Q hF1 hm1 fun a' w' β' hs hF' hm'=>hQ a' w' β' (hw1.trans hs) hF' hm'
 | exit id =>
  intro c2 st st' o hB hc h w Z β a Q hF hm hQ
  simp only [cD] at hc
  cases hc
  cases h
  exact wp_exit (hQ a w β (cK.refl w β) hF hm)
 | ret =>
  intro c2 st st' o hB hc h w Z β a Q hF hm hQ
  simp only [cD] at hc
  cases hc
  cases h
  exact wp_ret (hQ a w β (cK.refl w β) hF hm)
 | _ =>
  intro c2 st st' o hB hc h
  simp only [cD] at hc
  cases hc
  cases h
theorem EZ (hcb:cb.OK P B) (hmix:P.follows .mixedOrders = true) {lan:cF} {b:C2} (hB:∀ p,p∈bP b->B p.1 p.2):∀ (n:Nat) {st st':St} {o:iW},rounds cb byRef lan b n st (fun o s=>some (o,s)) = some (o,st')->Kx P b st o st':=by
  intro n st st' o h an c hc
  have key : ∀ (n : Nat) (st : St), rounds cb byRef lan b n st (fun o s => some (o, s)) = some (o, st') -> ∀ (w : World) (Z : Nat -> Prop) (β : aP) (a : Act) (Q : Exit -> Act -> World -> Prop), FR w (β.away Z) β st.tmps a -> MR w Z β st.mem ->
      (∀ a' w' β',cK w w' β β'->FR w' (β'.away Z) β' st'.tmps a'->MR w' Z β' st'.mem->Q (PX o) a' w')->Code.rounds P c Q n a w:=by
    intro n
    induction n with
    | zero=>intro st h; cases h
    | succ n ih =>
      intro st h w Z β a Q hF hm hQ
      simp only [rounds,round] at h
      rw [dt hcb.nat] at h
      obtain ⟨⟨o1,s1⟩,h1,h⟩:=Option.bind_eq_some_iff.1 h
      rw [rounds_succ]
      refine Ct hcb hmix c hB hc h1 w Z β a _ hF hm fun a' w' β' hs hF' hm'=>?_
      cases o1 with
      | norm =>
        dsimp only at h
        simp only [PX,Exit.then]
        split at h
        · rename_i s2 hs2
          obtain ⟨β1,hw1,hF1,hm1⟩:=pS hs2 hF' hm'
          exact ih s2 h w' Z β1 a' Q hF1 hm1 fun a2 w2 β2 hs2 hF2 hm2=>hQ a2 w2 β2 ((hs.trans hw1).trans hs2) hF2 hm2
        · cases h
      | exit q =>
        obtain ⟨β1,hw1,hF1,hm1⟩:=Cs (an:=lan) hF' hm'
        cases h; exact hQ a' w' β1 (hs.trans hw1) hF1 hm1
      | ret =>
        obtain ⟨β1,hw1,hF1,hm1⟩:=Cs (an:=lan) hF' hm'
        cases h; exact hQ a' w' β1 (hs.trans hw1) hF1 hm1
  intro w Z β a Q hF hm hQ
  exact wp_loop_rounds n (key n st h w Z β a Q hF hm hQ)
theorem Ky {α:Type} (hn:cb.Nat) {lan:cF} {b:C2}:∀ (n:Nat) (st:St) (K:iW->St->Option α),rounds cb byRef lan b n st K=(rounds cb byRef lan b n st fun o s=>some (o,s)).bind fun p=>K p.1 p.2
 | 0,st,K=>rfl
 | n+1,st,K=>by
  simp only [rounds,round]
  rw [dt hn]
  conv=>rhs; rw [dt hn]
  rw [Option.bind_assoc]
  congr 1
  funext p
  obtain ⟨o,s⟩:=p
  cases o with
  | norm =>
   dsimp only
   cases lR lan s with
   | none=>rfl
   | some s1=>exact Ky hn n s1 K
  | exit id=>rfl
  | ret=>rfl
theorem Hq (hcb:cb.OK P B) (hmix:P.follows .mixedOrders=true) {lan:cF} {b:C2} (hB:∀ p,p∈bP b->B p.1 p.2) {st st':St} {o:iW} (h:piece cb byRef lan b st (fun o s=>some (o,s))=some (o,st')):EY P b st o st':=by
 intro an c hc w Z β a Q hF hm hQ
 unfold piece at h
 rw [dt hcb.nat] at h
 obtain ⟨⟨o1,s1⟩,h1,h⟩:=Option.bind_eq_some_iff.1 h
 cases h
 refine Ct hcb hmix c hB hc h1 w Z β a _ hF hm fun a' w' β' hs hF' hm'=>?_
 obtain ⟨β1,hw1,hF1,hm1⟩:=Cs (an:=lan) hF' hm'
 exact hQ a' w' β1 (hs.trans hw1) hF1 hm1
theorem alK {w:World} {Z:Nat->Prop} {β:aP} {st:St} {a:Act} (hF:FR w (β.away Z) β st.tmps a) (hm:MR w Z β st.mem) {r:ResultVar} {rv:RV} (hr:Gy P r=some rv) {x:SV} (hx:aoT st rv=some x) :
  ∃ u,(match r with | .tmp t=>(pure (a.tmps.getD t undef):Sem Value) | .cell ad t=>do loadVar t (← asAddr (a.tmps.getD ad undef))).run P w=.ok u w/\x.R w (β.away Z) β u:=by
 cases r with
 | tmp t =>
  simp only [Gy] at hr
  cases hr
  cases hx
  exact ⟨_,rfl,hF.val _⟩
 | cell ad t =>
  simp only [Gy] at hr
  have hload:∀ (n:Option Nat) e,zC P t=some n->zu n (st.tmps.getD ad .dead) st.mem=some e->∃ u,((do loadVar t (← asAddr (a.tmps.getD ad undef))):Sem Value).run P w=.ok u w/\e.val.R w (β.away Z) β u:=by
   intro n e hs he
   obtain ⟨_,u,hu,hur⟩:=Hd (P:=P) hm (hF.val ad) he hs
   refine ⟨u,?_,hur⟩
   have hp:∃ A,a.tmps.getD ad undef=.pointer (some A):=by
    have hv:=hF.val ad
    unfold zu at he
    cases hsv:st.tmps.getD ad .dead with
    | ptr k i fo =>
     rw [hsv] at hv
     simp only [SV.R] at hv
     obtain ⟨l,_,hl⟩:=hv
     exact jU hl
    | pptr e r xs i fo =>
     rw [hsv] at hv
     simp only [SV.R] at hv
     obtain ⟨_,A,_,hA,_⟩:=hv
     exact ⟨_,hA⟩
    | _=>rw [hsv] at he; cases n<;>cases he
   obtain ⟨A,hA⟩:=hp
   rw [hA] at hu ⊢
   simpa [Instr.loadAt,Instr.sureAddr,asAddr] using hu
  split at hr
  ·rename_i n hs
   cases hr
   simp only [aoT,if_true] at hx
   split at hx
   ·rename_i e he
    cases hx
    exact hload _ e hs he
   ·cases hx
  ·rename_i hs
   cases hr
   simp only [aoT] at hx
   split at hx
   ·rename_i e he
    cases hx
    exact hload _ e hs (by simpa using he)
   ·cases hx
  ·cases hr
theorem L3 {w:World} {Z:Nat->Prop} {β:aP} {st:St} {a:Act} (hF:FR w (β.away Z) β st.tmps a) (hm:MR w Z β st.mem):∀ {rs:List ResultVar} {rvs:List RV} {xs:List SV},aY (Gy P) rs=some rvs->Sh st rvs=some xs ->
  ∃ us:List Value,(rs.mapM (fun r:ResultVar=>match r with | .tmp t=>(pure (a.tmps.getD t undef):Sem Value) | .cell ad t=>do loadVar t (← asAddr (a.tmps.getD ad undef)))).run P w=.ok us w/\SV.RL w (β.away Z) β xs us
 | [],rvs,xs,h,hx=>by
  simp only [aY] at h
  cases h
  cases hx
  exact ⟨[],by simp,rfl⟩
 | r::rs,rvs,xs,h,hx=>by
  simp only [aY] at h
  split at h
  ·rename_i rv rvs' hrv hrvs
   cases h
   simp only [Sh] at hx
   split at hx
   ·rename_i v vs hv hvs
    cases hx
    obtain ⟨u,hu,hur⟩:=alK hF hm hrv hv
    obtain ⟨us,hus,husr⟩:=L3 hF hm hrvs hvs
    refine ⟨u::us,?_,u,us,rfl,hur,husr⟩
    simp only [List.mapM_cons,Sem.run_bind]
    rw [hu]
    simp only [Result.andThen_ok]
    rw [hus]
    rfl
   ·cases hx
  ·cases h
theorem acP {w:World} {Z:Nat->Prop} {β:aP} {st:St} {a:Act} (hF:FR w (β.away Z) β st.tmps a) (hm:MR w Z β st.mem) {fn:Func} {rvs:List RV} (hr:aY (Gy P) fn.results.toList=some rvs) {x:SV} (hx:alk rvs st=some x) :
  ∃ u,(results fn a.tmps).run P w=.ok u w/\x.R w (β.away Z) β u:=by
 unfold alk at hx
 have hgo:∀ xs,Sh st rvs=some xs->∃ us:List Value,(results fn a.tmps).run P w=.ok (if h:us.toArray.size=1 then us.toArray[0] else .tuple us.toArray) w/\SV.RL w (β.away Z) β xs us:=by
  intro xs hxs
  obtain ⟨us,hus,husr⟩:=L3 hF hm hr hxs
  refine ⟨us,?_,husr⟩
  unfold results
  rw [Array.mapM_eq_mapM_toList]
  simp only [Sem.run_bind,map_eq_pure_bind]
  have h2:∀ r:Result (List Value),r=.ok us w->((r.andThen fun a w'=>Sem.run P (pure a.toArray) w').andThen fun a w'=>Sem.run P (pure (if h:a.size=1 then a[0] else Value.tuple a)) w')=.ok (if h:us.toArray.size=1 then us.toArray[0] else Value.tuple us.toArray) w:=by
   rintro _ rfl
   rfl
  exact h2 _ hus
 split at hx
 ·rename_i v hv
  cases hx
  obtain ⟨us,hus,v',us',rfl,hur,he⟩:=hgo _ hv
  simp only [SV.RL] at he
  subst he
  exact ⟨v',by simpa using hus,hur⟩
 ·rename_i vs hnot hvs
  cases hx
  obtain ⟨us,hus,husr⟩:=hgo _ hvs
  have hl:=SV.RL_len _ _ husr
  refine ⟨.tuple us.toArray,?_,us,rfl,husr⟩
  rw [hus,dif_neg]
  intro h1
  simp at h1
  match vs,hl,hnot,hvs with
  | [],hl,_,_=>simp at hl; subst hl; simp at h1
  | [v],_,hnot,hvs=>exact hnot v rfl
  | _::_::_,hl,_,_=>simp at hl; omega
 ·cases hx
theorem sY:∀ (l ks:List Nat) (i:Nat) (k:Nat),ks[i]? = some k->(jB ks l)[i]? = some k
 | [],ks,i,k,h=>h
 | q::l,ks,i,k,h=>by
  simp only [jB]
  split
  ·exact sY l ks i k h
  ·refine sY l _ i k ?_
   rw [List.getElem?_append_left (List.getElem?_eq_some_iff.1 h).1]
   exact h
theorem BF {m:ar}:∀ (n j:Nat) (ks:List Nat) (i:Nat) (k:Nat),ks[i]? = some k->(lP m n j ks)[i]? = some k
 | 0,_,_,_,_,h=>h
 | n+1,j,ks,i,k,h=>by
  simp only [lP]
  split
  ·exact h
  ·split
   ·exact BF n _ _ i k (sY _ _ i k h)
   ·exact BF n _ _ i k h
theorem alL {w : World} {Z : Nat -> Prop} {β : aP} {m : ar} (hm : MR w Z β m) {ks : List Nat} (hnd : ks.Nodup) {βc : aP} (hβc : βc = fun j => match ks[j]? with | some k => β k | none => none) :
  MR w Z βc (ck m (cZ ks 0) ks 0)/\(∀ b,βc.owned b->β.owned b)/\∀ (x:SV) (v:Value),x.R w (β.away Z) β v->(x.ren (cZ ks 0)).R w (βc.away Z) βc v:=by
 have hget:∀ j,(ck m (cZ ks 0) ks 0).get j=match ks[j]? with | some k=>(m.get k).map (Ob.ren (cZ ks 0)) | none=>none:=by
  intro j
  rw [xK,if_pos (Nat.zero_le _),Nat.sub_zero]
  cases ks[j]? <;> rfl
 have hβj:∀ j k,ks[j]? = some k->βc j=β k:=by intro j k hk; rw [hβc]; simp only [hk]
 have hβs:∀ j l,βc j=some l->∃ k,ks[j]? = some k/\β k=some l:=by
  intro j l hl
  rw [hβc] at hl
  dsimp only at hl
  split at hl
  ·rename_i k hk; exact ⟨k,hk,hl⟩
  ·cases hl
 have hown:∀ b,βc.owned b->β.owned b:=by
  rintro b ⟨j,l,hl,hb⟩
  obtain ⟨k,hk,hl'⟩:=hβs j l hl
  exact ⟨k,l,hl',hb⟩
 have hρ:∀ k l j,β k=some l->cZ ks 0 k=some j->βc j=some l:=by
  intro k l j hl hj
  obtain ⟨_,h2⟩:=sV hj
  rw [Nat.sub_zero] at h2
  rw [hβj j k h2,hl]
 have hst:cE w w (β.away Z) (βc.away Z):=⟨Nat.le_refl _,fun b _ hb=>⟨rfl,fun h'=>hb (h'.imp (hown b) id)⟩⟩
 refine ⟨⟨fun j o ho=>?_,fun j l hl=>?_,fun j j' l l' b hl hl' hb hb'=>?_,fun b hb=>hm.apart b (hown b hb),hm.old⟩,hown,fun x v hx=>SV.ren_R hst hρ x v hx⟩
 ·rw [hget] at ho
  split at ho
  ·rename_i k hk
   obtain ⟨o0,ho0,rfl⟩:=Option.map_eq_some_iff.1 ho
   obtain ⟨l,hl,hob⟩:=hm.obs k o0 ho0
   exact ⟨l,by rw [hβj j k hk,hl],hob.ren hst hρ⟩
  ·cases ho
 ·obtain ⟨k,hk,hl'⟩:=hβs j l hl
  obtain ⟨o,ho⟩:=hm.dom k l hl'
  exact ⟨o.ren (cZ ks 0),by rw [hget,hk]; simp [ho]⟩
 ·obtain ⟨k,hk,h1⟩:=hβs j l hl
  obtain ⟨k',hk',h2⟩:=hβs j' l' hl'
  have hkk:=hm.inj k k' l l' b h1 h2 hb hb'
  subst hkk
  exact GK hnd hk hk'
theorem aaV {w:World} {A:Nat->Prop} {β:aP} {p:ak} {x:SV} {v:Value} (h:x.R w A β v):(aaN p x).R w A β v:=by
 unfold aaN
 split
 ·simp only [SV.R] at h
  subst h
  exact ⟨none,0,rfl,⟨Nat.le_refl _,fun _=>rfl⟩,fun j hj=>absurd hj (by simp)⟩
 ·simp only [SV.R] at h
  obtain ⟨a,cap,rfl⟩:=h
  exact ⟨some a,cap,rfl,⟨Nat.zero_le _,fun h=>by cases h⟩,fun j hj=>absurd hj (by simp)⟩
 ·exact h
theorem aaW {w:World} {A:Nat->Prop} {β:aP}:∀ (ps:List ak) (l:List SV) (vs:List Value),SV.RL w A β l vs->SV.RL w A β (ali ps l) vs
 | [],l,vs,h=>by cases l<;>exact h
 | p::ps,[],vs,h=>h
 | p::ps,x::l,vs,h=>by
  simp only [SV.RL] at h
  obtain ⟨v,vs',rfl,hx,hl⟩:=h
  exact ⟨v,vs',rfl,aaV hx,aaW ps l vs' hl⟩
theorem aaX {w:World} {A:Nat->Prop} {β:aP} {ps:List ak} {x:SV} {v:Value} (h:x.R w A β v):(aaO ps x).R w A β v:=by
 unfold aaO
 split
 ·simp only [SV.R] at h ⊢
  obtain ⟨vs,hv,hl,h1⟩:=h
  exact ⟨vs,hv,aaW _ _ _ hl,h1⟩
 ·split
  ·exact aaV h
  ·exact h
theorem SM {w:World} {A:Nat->Prop} {β:aP}:∀ (ps:List (List ak)) (l:List SV) (vs:List Value),SV.RL w A β l vs->SV.RL w A β (Vj ps l) vs
 | [],l,vs,h=>by cases l<;>exact h
 | p::ps,[],vs,h=>h
 | p::ps,x::l,vs,h=>by
  simp only [SV.RL] at h
  obtain ⟨v,vs',rfl,hx,hl⟩:=h
  exact ⟨v,vs',rfl,aaX hx,SM ps l vs' hl⟩
theorem ao5 {w:World} {A:Nat->Prop} {β:aP} {kinds:List (List ak)} {x:SV} {v:Value} (h:x.R w A β v):(alj kinds x).R w A β v:=by
 unfold alj
 split
 ·simp only [SV.R] at h ⊢
  obtain ⟨vs,hv,hl⟩:=h
  exact ⟨vs,hv,SM _ _ _ hl⟩
 ·split
  ·exact aaX h
  ·exact h
theorem ao6 {w:World} {Z:Nat->Prop} {β:aP} {m:ar} (hm:MR w Z β m) {lent:List Nat} {A':Nat->Prop} (hA:∀ b,A' b->(β.freezeL lent).away Z b) {β':aP} {ρ:Nat->Option Nat} (hρ:∀ k l j,β k=some l->ρ k=some j->β' j=some l)
  (x:SV) (v:Value) (hk:∀ k,k∈x.lentR m->k∈lent) (hr:x.R w (β.away Z) β v):((x.pureR m).ren ρ).R w A' β' v:=by
 cases x with
 | tup cs =>
  simp only [SV.pureR,SV.ren,SV.R] at hr ⊢
  obtain ⟨vs,hv,hl⟩:=hr
  exact ⟨vs,hv,SV.pureL_R hm hA hρ cs vs hk hl⟩
 | _=>exact SV.pure_R hm hA hρ _ v hk hr
theorem VC {w:World} {Z:Nat->Prop} {β:aP} {m:ar} (hm:MR w Z β m) {pur:Bool} {kinds:List (List ak)} {n:Nat} {u v:SV} {m':ar}
  (h:(match pur with | true=>zB kinds n u m (fun v m'=>some (v,m')) | false=>zA n u m (fun v m'=>some (v,m')))=some (v,m')) :
  ∃ β',(∀ b,β'.owned b->β.owned b)/\(∀ k,k<n->β' k=β k)/\MR w Z β' m'/\∀ r,u.R w (β.away Z) β r->v.R w (β'.away Z) β' r:=by
 cases pur with
 | false =>
  dsimp only at h
  unfold zA at h
  dsimp only at h
  split at h
  ·rename_i hcl
   simp only [Bool.and_eq_true] at hcl
   simp only [Option.some.injEq,Prod.mk.injEq] at h
   obtain ⟨rfl,rfl⟩:=h
   obtain ⟨h1,h2,h3⟩:=alL hm (fR hcl.2) rfl
   refine ⟨_,h2,fun k hk=>?_,h1,fun r hr=>h3 _ _ hr⟩
   have hkk:(lP m 64 0 (jB (List.range n) u.refs))[k]? = some k:=BF _ _ _ _ _ (sY _ _ _ _ (by rw [List.getElem?_range hk]))
   simp only [hkk]
  ·cases h
 | true =>
  dsimp only at h
  unfold zB at h
  dsimp only at h
  split at h
  ·rename_i hcl
   simp only [Bool.and_eq_true] at hcl
   obtain ⟨⟨hclosed,hdist⟩,hdis⟩:=hcl
   simp only [Option.some.injEq,Prod.mk.injEq] at h
   obtain ⟨rfl,rfl⟩:=h
   obtain ⟨ks,hks⟩:∃ ks,ks=lP m 64 0 (jB (List.range n) (u.pureR m).refs):=⟨_,rfl⟩
   rw [← hks] at hdist hdis
   obtain ⟨βc,hβc⟩:∃ βc:aP,βc=fun j=>match ks[j]? with | some k=>β k | none=>none:=⟨_,rfl⟩
   obtain ⟨h1,h2,h3⟩:=alL hm (fR hdist) hβc
   rw [← hks]
   refine ⟨βc,h2,fun k hk=>?_,h1,fun r hr=>?_⟩
   ·have hkk:ks[k]? = some k:=by rw [hks]; exact BF _ _ _ _ _ (sY _ _ _ _ (by rw [List.getElem?_range hk]))
    rw [hβc]
    simp only [hkk]
   ·refine ao5 (ao6 hm (lent:=u.lentR m) (fun b hb=>?_) (fun k l j hl hj=>?_) u r (fun k hk=>hk) hr)
    ·rcases hb with ⟨j,l,hl,ho⟩ | hz
     ·rw [hβc] at hl
      dsimp only at hl
      split at hl
      ·rename_i k hk
       refine .inl ⟨k,l,?_,ho⟩
       simp only [aP.freezeL]
       rw [if_neg]
       ·exact hl
       ·intro hlk
        have:=List.all_eq_true.1 hdis k hlk
        simp [List.mem_of_getElem? hk] at this
      ·cases hl
     ·exact .inr hz
    ·obtain ⟨_,h2⟩:=sV hj
     rw [Nat.sub_zero] at h2
     rw [hβc]
     simp only [h2,hl]
  ·cases h
structure aF (P:Program) (an:Nat->cF) (f:FuncId) (fn:Func) (fd:FD):Prop where
 has:P.funcs[f]? = some fn
 comp:wX P an fn=some fd
 name:(fn.name == "runtime.NumGoroutine") = false
theorem Kz {w:World} {Z:Nat->Prop} {β:aP} {m:ar} {j:Nat} {e:TypeId} {r:aw} {xs:List r.T} (hm:MR w Z β m) (hj:m.get j=some (.row e r xs)):∃ β',cK w w β β'/\MR w Z β' (m.set j .gone)/\∀ x v,SV.R w (β.away Z) β x v->SV.R w (β'.away Z) β' x v:=by
 obtain ⟨l,hl,hob⟩:=hm.obs j _ hj
 have hs : bX w w β (β.put j .gone) := ⟨rfl, rfl, rfl, Nat.le_refl _, fun _ _ _ => rfl, fun b hb => by
   obtain ⟨q,l',hq,ho⟩:=hb
   simp only [aP.put] at hq
   split at hq
   ·cases hq; cases ho
   ·exact .inl ⟨q,l',hq,ho⟩,fun q l' hq=>by
   simp only [aP.put]
   by_cases hqj:q=j
   ·subst hqj
    rw [if_pos rfl]
    rw [hl] at hq
    cases hq
    refine ⟨_,rfl,.gone _ fun b hb=>?_⟩
    subst hb
    exact hob.elim
   ·rw [if_neg hqj]
    exact ⟨l',hq,.refl l'⟩⟩
 refine ⟨_,hs.weak,?_,fun x v hx=>SV.R_step hs.stays hs.le x v hx⟩
 refine hm.update (fun q=>q=j) hs (fun q hq=>⟨by simp [aP.put,hq],by rw [ar.get_set,if_neg hq]⟩) (fun _ _ _ _ _ _=>rfl) (fun q o hq hg=>?_) (fun q l hq hl=>?_) (fun q l b hq hl hb=>?_)
 ·subst hq
  rw [ar.get_set,if_pos rfl] at hg
  cases hg
  exact ⟨.gone,by simp [aP.put],trivial⟩
 ·subst hq
  exact ⟨_,by rw [ar.get_set,if_pos rfl]⟩
 ·subst hq
  simp [aP.put] at hl
  subst hl
  cases hb
theorem E0 (v:SV) (n:Nat):IB v n=lF v++(List.range n).map fun j=>.ptr j 0 0:=by
 cases v<;>rfl
theorem L4 {w:World} {A:Nat->Prop} {β:aP} {v:SV} {u:Value} (h:v.R w A β u):∃ us,SV.RL w A β (lF v) us/\∀ (A':Nat->Prop) (β':aP) (l:List SV),SV.RL w A' β' l us->(JZ v l).R w A' β' u:=by
 have hgo:lF v=[v]->(∀ l,JZ v l=l.getD 0 .dead)->∃ us,SV.RL w A β (lF v) us/\∀ (A':Nat->Prop) (β':aP) (l:List SV),SV.RL w A' β' l us->(JZ v l).R w A' β' u:=by
  intro h1 h2
  refine ⟨[u],by rw [h1]; exact ⟨u,[],rfl,h,rfl⟩,fun A' β' l hl=>?_⟩
  rw [h2]
  cases l with
  | nil=>cases hl
  | cons x l =>
   simp only [SV.RL] at hl
   obtain ⟨v',vs',he,hx,_⟩:=hl
   cases he
   exact hx
 cases v with
 | tup vs =>
  simp only [SV.R] at h
  obtain ⟨us,rfl,hl⟩:=h
  exact ⟨us,hl,fun A' β' l hl'=>by simp only [JZ,SV.R]; exact ⟨us,rfl,hl'⟩⟩
 | _=>exact hgo rfl fun _=>rfl
theorem ao7 {w:World} {A:Nat->Prop} {β:aP} {l:List SV} {us:List Value} (h:SV.RL w A β l us):FR w A β l { tmps:=us.toArray,defers:=[] }:=by
 refine ⟨by simpa using SV.RL_len _ _ h,fun t=>?_,rfl⟩
 rw [List.getD_eq_getElem?_getD]
 cases ht:l[t]? with
 | none=>trivial
 | some x =>
  obtain ⟨u,hu,hr⟩:=SV.RL_get _ _ h t x ht
  have:(us.toArray.getD t undef)=u:=by simp [Array.getD_eq_getD_getElem?,hu]
  show x.R w A β (us.toArray.getD t undef)
  rw [this]
  exact hr
theorem ao8 {w:World} {A:Nat->Prop} {β:aP} {l:List SV} {us:List Value} (h:FR w A β l { tmps:=us.toArray,defers:=[] }):SV.RL w A β l us:=by
 refine SV.RL_of_get _ _ (by simpa using h.len) fun t x u hx hu=>?_
 have:=h.val t
 rw [List.getD_eq_getElem?_getD,hx] at this
 have h2:(us.toArray.getD t undef)=u:=by simp [Array.getD_eq_getD_getElem?,hu]
 have this:x.R w A β (us.toArray.getD t undef):=this
 rw [h2] at this
 exact this
theorem KA {w:World} {Z:Nat->Prop} {β:aP} {m m':ar} {key n:Nat} {h:Nat×Nat×Nat} {v v':SV} {u:Value} (hm:MR w Z β m) (hv:v.R w (β.away Z) β u) (hr:J0 key n h v m=some (v',m')) :
  ∃ β',cK w w β β'/\MR w Z β' m'/\v'.R w (β'.away Z) β' u:=by
 unfold J0 at hr
 split at hr
 ·rename_i k i fo _
  split at hr
  ·rename_i cs hk
   split at hr
   ·rename_i j hj
    split at hr
    ·split at hr
     ·rename_i hc
      obtain ⟨h1,h2,h3⟩:=hc
      simp only [Option.some.injEq,Prod.mk.injEq] at hr
      obtain ⟨rfl,rfl⟩:=hr
      have hF:FR w (β.away Z) β (St.mk [v] m).tmps { tmps:=#[u],defers:=[] }:=⟨rfl,fun t=>by
       cases t with
       | zero=>exact hv
       | succ t=>trivial,rfl⟩
      have hcell:∃ lk,β j=some lk/\∃ x,lk.whole x:=by
       obtain ⟨l0,hl0,hob0⟩:=hm.obs k _ hk
       cases l0 with
       | box b =>
        obtain ⟨vs,t,hh,hrl,_⟩:=hob0
        have hx:cs[i+fo+h.2.1]? = some (.slw j):=by
         rw [List.getD_eq_getElem?_getD] at hj
         cases hq:cs[i+fo+h.2.1]? with
         | none=>rw [hq] at hj; cases hj
         | some y=>rw [hq] at hj; simp at hj; rw [hj]
        obtain ⟨x,_,hx⟩:=SV.RL_get _ _ hrl _ _ hx
        simp only [SV.R] at hx
        obtain ⟨lk,hlk,hw⟩:=hx
        exact ⟨lk,hlk,x,hw⟩
       | _=>exact hob0.elim
      obtain ⟨lk,hlk,x,hw⟩:=hcell
      obtain ⟨β1,s1,f1,m1⟩:=Cr hF hm (by simpa using h1) h2 h3 (fun b hb=>by
       rw [hlk] at hb
       cases hb
       exact hw)
      exact ⟨β1,s1,m1,f1.val 0⟩
     ·cases hr
    ·split at hr
     ·rename_i e r xs hg
      simp only [Option.some.injEq,Prod.mk.injEq] at hr
      obtain ⟨rfl,rfl⟩:=hr
      obtain ⟨β1,s1,m1,h4⟩:=Kz hm hg
      exact ⟨β1,s1,m1,h4 _ _ hv⟩
     ·simp only [Option.some.injEq,Prod.mk.injEq] at hr
      obtain ⟨rfl,rfl⟩:=hr
      exact ⟨β,cK.refl w β,hm,hv⟩
     ·cases hr
   ·rename_i j off len hj
    split at hr
    ·rename_i e r xs hg
     split at hr
     ·rename_i hc
      obtain ⟨_,h2,h3⟩:=hc
      simp only [Option.some.injEq,Prod.mk.injEq] at hr
      obtain ⟨rfl,rfl⟩:=hr
      have hF:FR w (β.away Z) β (St.mk [v] m).tmps { tmps:=#[u],defers:=[] }:=⟨rfl,fun t=>by
       cases t with
       | zero=>exact hv
       | succ t=>trivial,rfl⟩
      have hle:off+len<=xs.length:=by
       obtain ⟨l0,hl0,hob0⟩:=hm.obs k _ hk
       cases l0 with
       | box b =>
        obtain ⟨vs,t,hh,hrl,_⟩:=hob0
        have hx:cs[i+fo+h.2.1]? = some (.sl j off len):=by
         rw [List.getD_eq_getElem?_getD] at hj
         cases hq:cs[i+fo+h.2.1]? with
         | none=>rw [hq] at hj; cases hj
         | some y=>rw [hq] at hj; simp at hj; rw [hj]
        obtain ⟨x,_,hx⟩:=SV.RL_get _ _ hrl _ _ hx
        simp only [SV.R] at hx
        obtain ⟨lk,hlk,hp⟩:=hx
        obtain ⟨l1,hl1,hob1⟩:=hm.obs j _ hg
        rw [hlk] at hl1; cases hl1
        cases lk with
        | row ad cap n sz e' =>
         obtain ⟨_,_,_,rfl,_⟩:=hob1
         obtain ⟨_,_,_,_,h,_⟩:=hp
         exact h
        | _=>exact hob1.elim
       | _=>exact hob0.elim
      obtain ⟨β1,s1,f1,m1⟩:=uK (at_:=.cell k (i+fo+h.2.1)) (off:=off) (len:=len) hF hm (by simp only [cH.get,hk]; exact hj) hg (by simpa using h2) h3 hle
      exact ⟨β1,s1,m1,f1.val 0⟩
     ·cases hr
    ·cases hr
   ·cases hr
  ·cases hr
 ·rename_i j hj
  split at hr
  ·rename_i hlt
   obtain ⟨us,hus,hback⟩:=L4 hv
   have hx:(lF v)[h.1]? = some (.slw j):=by
    rw [E0,List.getD_eq_getElem?_getD,List.getElem?_append_left hlt,List.getElem?_eq_getElem hlt] at hj
    rw [List.getElem?_eq_getElem hlt]
    exact congrArg some hj
   split at hr
   ·split at hr
    ·rename_i hc
     obtain ⟨h1,h2,h3⟩:=hc
     simp only [Option.some.injEq,Prod.mk.injEq] at hr
     obtain ⟨rfl,rfl⟩:=hr
     have hF:FR w (β.away Z) β (St.mk [v] m).tmps { tmps:=#[u],defers:=[] }:=⟨rfl,fun t=>by
      cases t with
      | zero=>exact hv
      | succ t=>trivial,rfl⟩
     obtain ⟨x,_,hx⟩:=SV.RL_get _ _ hus _ _ hx
     simp only [SV.R] at hx
     obtain ⟨lk,hlk,hw⟩:=hx
     obtain ⟨β1,s1,f1,m1⟩:=Cr hF hm (by simpa using h1) h2 h3 (fun b hb=>by
      rw [hlk] at hb
      cases hb
      exact hw)
     exact ⟨β1,s1,m1,f1.val 0⟩
    ·cases hr
   ·split at hr
    ·rename_i e r xs hg
     simp only [Option.some.injEq,Prod.mk.injEq] at hr
     obtain ⟨rfl,rfl⟩:=hr
     obtain ⟨β1,s1,m1,h4⟩:=Kz hm hg
     exact ⟨β1,s1,m1,h4 _ _ hv⟩
    ·simp only [Option.some.injEq,Prod.mk.injEq] at hr
     obtain ⟨rfl,rfl⟩:=hr
     exact ⟨β,cK.refl w β,hm,hv⟩
    ·cases hr
  ·cases hr
 ·rename_i j off len hj
  split at hr
  ·rename_i hlt
   obtain ⟨us,hus,hback⟩:=L4 hv
   have hx:(lF v)[h.1]? = some (.sl j off len):=by
    rw [E0,List.getD_eq_getElem?_getD,List.getElem?_append_left hlt,List.getElem?_eq_getElem hlt] at hj
    rw [List.getElem?_eq_getElem hlt]
    exact congrArg some hj
   split at hr
   ·rename_i e r xs hg
    split at hr
    ·rename_i hc
     obtain ⟨_,h2,h3⟩:=hc
     simp only [Option.some.injEq,Prod.mk.injEq] at hr
     obtain ⟨rfl,rfl⟩:=hr
     have hF:FR w (β.away Z) β (St.mk (lF v) m).tmps { tmps:=us.toArray,defers:=[] }:=ao7 hus
     have hle:off+len<=xs.length:=by
      obtain ⟨x,_,hx⟩:=SV.RL_get _ _ hus _ _ hx
      simp only [SV.R] at hx
      obtain ⟨lk,hlk,hp⟩:=hx
      obtain ⟨l1,hl1,hob1⟩:=hm.obs j _ hg
      rw [hlk] at hl1; cases hl1
      cases lk with
      | row ad cap n sz e' =>
       obtain ⟨_,_,_,rfl,_⟩:=hob1
       obtain ⟨_,_,_,_,h,_⟩:=hp
       exact h
      | _=>exact hob1.elim
     obtain ⟨β1,s1,f1,m1⟩:=uK (at_:=.slot h.1) (off:=off) (len:=len) hF hm (by simp only [cH.get,List.getD_eq_getElem?_getD,hx]; rfl) hg (by simpa using h2) h3 hle
     exact ⟨β1,s1,m1,hback _ _ _ (ao8 f1)⟩
    ·cases hr
   ·cases hr
  ·cases hr
 ·cases hr
theorem zR {w:World} {Z:Nat->Prop} {n:Nat} {u:Value}:∀ (l:List (Nat×Nat×Nat)) (c:Nat) {β:aP} {m m':ar} {v v':SV},MR w Z β m->v.R w (β.away Z) β u->EH n l c v m=some (v',m') ->
  ∃ β',cK w w β β'/\MR w Z β' m'/\v'.R w (β'.away Z) β' u
 | [],c,β,m,m',v,v',hm,hv,h=>by cases h; exact ⟨β,cK.refl w β,hm,hv⟩
 | h::l,c,β,m,m',v,v',hm,hv,hr=>by
  simp only [EH] at hr
  split at hr
  ·rename_i p hp
   obtain ⟨v1,m1⟩:=p
   obtain ⟨β1,s1,hm1,hv1⟩:=KA hm hv hp
   obtain ⟨β2,s2,hm2,hv2⟩:=zR l (c+1) hm1 hv1 hr
   exact ⟨β2,s1.trans s2,hm2,hv2⟩
  ·cases hr
theorem KB {pur:Bool} {kinds:List (List ak)} {n:Nat} {u v:SV} {m m':ar}
  (h:(match pur with | true=>zB kinds n u m (fun v m'=>some (v,m')) | false=>zA n u m (fun v m'=>some (v,m')))=some (v,m')):(aE m').Nodup:=by
 cases pur with
 | false =>
  dsimp only at h
  unfold zA at h
  dsimp only at h
  split at h
  ·simp only [Option.some.injEq,Prod.mk.injEq] at h
   obtain ⟨rfl,rfl⟩:=h
   exact lG _ 0
  ·cases h
 | true =>
  dsimp only at h
  unfold zB at h
  dsimp only at h
  split at h
  ·simp only [Option.some.injEq,Prod.mk.injEq] at h
   obtain ⟨rfl,rfl⟩:=h
   exact lG _ 0
  ·cases h
theorem sZ (hcb:cb.OK P B) (hmix:P.follows .mixedOrders=true) {an:Nat->cF} {f:FuncId} {fn:Func} {fd:FD} (hf:aF P an f fn fd) (hB:∀ p,p∈bP fd.body->B p.1 p.2) {args:List SV} {m:ar} {rc:RC} {v:SV} {m':ar}
    (h:ai cb byRef rc fd args m (fun v m'=>some (v,m'))=some (v,m')):uH P f args m v m':=by
  intro w Z β vs hm hargs
  obtain ⟨hfn,hcomp,hname⟩:=hf
  unfold wX at hcomp
  split at hcomp
  · rename_i c hbody
    split at hcomp
    · rename_i b rs hb hrs
      cases hcomp
      unfold ai at h
      split at h
      · rename_i hchk
        obtain ⟨hlen,hm500,hmall⟩:=hchk
        rw [dt hcb.nat] at h
        obtain ⟨⟨o,st⟩,hex,h⟩:=Option.bind_eq_some_iff.1 h
        dsimp only at h
        split at h
        rotate_left
        · cases h
        rename_i hends
        split at h
        · rename_i u hu
          split at h
          rotate_left
          · cases h
          rename_i p hmv
          have hgive:=fun {w':World} {β':aP} (hm':MR w' Z β' p.2)=>VC hm' h
          refine .inr ⟨?_,?_⟩
          · unfold callFunc
            have h1:fn.name≠"runtime.NumGoroutine":=by simpa using hname
            simp [hfn,h1,hbody,Sem.run]
          · refine calls_of_wp hfn hbody ?_
            have hF:FR w (β.away Z) β (args++List.replicate (fn.ntmps-args.length) .dead) { tmps:=vs.toArray++Array.replicate (fn.ntmps-vs.toArray.size) undef,defers:=[] }:=by
                have hvl:=SV.RL_len _ _ hargs
                refine ⟨by simp [hvl],fun i=>?_,rfl⟩
                simp only [Array.getD_eq_getD_getElem?,List.getD]
                rw [Array.getElem?_append,List.getElem?_append]
                simp only [List.size_toArray,hvl]
                split
                · rename_i hi
                  obtain ⟨v,hv,hr⟩:=SV.RL_get _ _ hargs i args[i] (List.getElem?_eq_getElem hi)
                  rw [List.getElem?_toArray,hv,List.getElem?_eq_getElem hi]
                  exact hr
                · rw [List.getElem?_replicate]
                  split<;>trivial
            have hfin:∀ a' w' β',cK w w' β β'->FR w' (β'.away Z) β' st.tmps a'->MR w' Z β' st.mem ->
                a'.defers=[]/\∃ r,(results fn a'.tmps).run P w'=.ok r w'/\(fun e w'=>∃ u_1,e=Ending.returned u_1/\∃ β',bX w w' β β'/\MR w' Z β' (m.sets m')/\SV.R w' (β'.away Z) β' v u_1) (.returned r) w':=by
              intro a' w' β' hs hF' hm'
              refine ⟨hF'.defers,?_⟩
              obtain ⟨r,hr,hrr⟩:=acP hF' hm' hrs hu
              refine ⟨r,hr,r,rfl,?_⟩
              obtain ⟨β3,hs3,hm3⟩:=uI 99999 (IB u m.length) rc.nils 0 hm'
              obtain ⟨β4,hs4,hm4,hr4⟩:=zR rc.moves 0 hm3 (SV.R_step hs3.stays hs3.le _ _ hrr) hmv
              obtain ⟨β'',h2,h0,h1,h3⟩:=hgive hm4
              have hs5:=hs3.weak.trans hs4
              have hcov:∀ q o,m.get q=some o->∃ o',m'.get q=some o':=by
                intro q o ho
                obtain ⟨l,hl,_⟩:=hm.obs q o ho
                have hk:q<m.length:=by
                  have:=List.all_eq_true.1 hmall _ (jY ho)
                  simpa using this
                obtain ⟨l',hl',_⟩:=hs.le q l (by omega) hl
                obtain ⟨l3,hl3,_⟩:=hs5.le q l' (by omega) hl'
                exact h1.dom q l3 (by rw [h0 q hk]; exact hl3)
              have hsame:∀ q,(m.sets m').get q=m'.get q:=by
                intro q
                by_cases hq:q∈aE m'
                · obtain ⟨o,ho⟩:=bf.1 hq
                  rw [fj (KB h) ho]
                  exact (sW (KB h) ho).symm
                · rw [ar.get_sets _ _ _ fun o ho=>hq (bf.2 ⟨o,ho⟩)]
                  cases hg:m.get q with
                  | none =>
                    cases hg':m'.get q with
                    | none=>rfl
                    | some o=>exact (hq (bf.2 ⟨o,jY hg'⟩)).elim
                  | some o =>
                    obtain ⟨o',ho'⟩:=hcov q o hg
                    exact (hq (bf.2 ⟨o',jY ho'⟩)).elim
              refine ⟨_,⟨hs.os,hs.tape,hs.output,hs.size,hs.block,fun b hb=>by
                rcases hs5.own b (h2 b hb) with h5 | h5
                · exact hs.own b h5
                · exact .inr (Nat.le_trans hs.size h5),fun k l hl=>?_⟩,h1.congr hsame,h3 _ hr4⟩
              obtain ⟨o,ho⟩:=hm.dom k l hl
              have hk:k<m.length:=by
                have:=List.all_eq_true.1 hmall _ (jY ho)
                simpa using this
              obtain ⟨l',hl',hle⟩:=hs.le k l (by omega) hl
              obtain ⟨l3,hl3,hle3⟩:=hs5.le k l' (by omega) hl'
              exact ⟨l3,by rw [h0 k hk]; exact hl3,hle.trans hle3⟩
            refine Ct hcb hmix c hB hb hex w Z β _ _ (by simpa using hF) hm fun a' w' β' hs hF' hm'=>?_
            have:=hfin a' w' β' hs hF' hm'
            cases o with
            | norm=>exact this
            | ret=>exact this
            | exit id=>cases hends
        · cases h
      · cases h
    · cases hcomp
  · cases hcomp
end
mutual
/-- The shape of a value: what is open in it are its leaves. -/
inductive Sk where
 | const (c:SV)
 | leaf (p:ak)
 /-- a piece of a row with a name: where it begins,how long it is -/
 | piece (k:Nat)
 | agg (l:aC)
 | tup (l:aC)
 | fn (f:FuncId) (l:aC)
inductive aC where
 | nil
 | cons (s:Sk) (l:aC)
end
mutual
def Sk.T:Sk->Type
 | .const _=>Unit
 | .leaf p=>p.T
 | .piece _=>Nat×Nat
 | .agg l=>l.T
 | .tup l=>l.T
 | .fn _ l=>l.T
def aC.T:aC->Type
 | .nil=>Unit
 | .cons (.const _) l=>l.T
 | .cons (.leaf p) l=>p.T×l.T
 | .cons (.piece _) l=>(Nat×Nat)×l.T
 | .cons (.agg l') l=>l'.T×l.T
 | .cons (.tup l') l=>l'.T×l.T
 | .cons (.fn _ l') l=>l'.T×l.T
end
mutual
def Sk.sv:(s:Sk)->s.T->SV
 | .const c,_=>c
 | .leaf p,x=>p.sv x
 | .piece k,x=>.sl k x.1 x.2
 | .agg l,x=>.agg (l.svs x)
 | .tup l,x=>.tup (l.svs x)
 | .fn f l,x=>.fn f (l.svs x)
def aC.svs:(l:aC)->l.T->List SV
 | .nil,_=>[]
 | .cons (.const c) l,x=>c::l.svs x
 | .cons (.leaf p) l,x=>p.sv x.1::l.svs x.2
 | .cons (.piece k) l,x=>.sl k x.1.1 x.1.2::l.svs x.2
 | .cons (.agg l') l,x=>.agg (l'.svs x.1)::l.svs x.2
 | .cons (.tup l') l,x=>.tup (l'.svs x.1)::l.svs x.2
 | .cons (.fn f l') l,x=>.fn f (l'.svs x.1)::l.svs x.2
end
def SV.same:SV->SV->Bool
 | .dead,_=>true
 | .nils,.nils=>true
 | .pe,.pe=>true
 | .nilp,.nilp=>true
 | .nilf,.nilf=>true
 | .nili,.nili=>true
 | .nilm,.nilm=>true
 | .slw k,.slw k'=>k==k'
 | .sl k off len,.sl k' off' len'=>k==k'&&off==off'&&len==len'
 | .ptr k i fo,.ptr k' i' fo'=>k==k'&&i==i'&&fo==fo'
 | .mp k,.mp k'=>k==k'
 | .bsl k n,.bsl k' n'=>k==k'&&n==n'
 | .fn f [],.fn f' []=>f==f'
 | .bool b,.bool b'=>b==b'
 | _,_=>false
mutual
def Sk.of:(s:Sk)->SV->Option s.T
 | .const c,x=>if c.same x=true then some () else none
 | .leaf p,x=>p.of [] x
 | .piece k,.sl k' off len=>if k=k' then some (off,len) else none
 | .piece _,_=>none
 | .agg l,.agg cs=>l.of cs
 | .tup l,.tup cs=>l.of cs
 | .fn f l,.fn f' cs=>if f=f' then l.of cs else none
 | .agg _,_=>none
 | .tup _,_=>none
 | .fn _ _,_=>none
def aC.of:(l:aC)->List SV->Option l.T
 | .nil,[]=>some ()
 | .nil,_::_=>none
 | .cons _ _,[]=>none
 | .cons (.const c) l,x::xs=>if c.same x=true then l.of xs else none
 | .cons (.leaf p) l,x::xs=>match p.of [] x,l.of xs with | some a,some b=>some (a,b) | _,_=>none
 | .cons (.piece k) l,.sl k' off len::xs=>if k=k' then (match l.of xs with | some b=>some ((off,len),b) | none=>none) else none
 | .cons (.piece _) _,_::_=>none
 | .cons (.agg l') l,.agg cs::xs=>match l'.of cs,l.of xs with | some a,some b=>some (a,b) | _,_=>none
 | .cons (.agg _) _,_::_=>none
 | .cons (.tup l') l,.tup cs::xs=>match l'.of cs,l.of xs with | some a,some b=>some (a,b) | _,_=>none
 | .cons (.tup _) _,_::_=>none
 | .cons (.fn f l') l,.fn f' cs::xs=>if f=f' then (match l'.of cs,l.of xs with | some a,some b=>some (a,b) | _,_=>none) else none
 | .cons (.fn _ _) _,_::_=>none
end
theorem aC.of_const {c:SV} {l:aC} {x:SV} {xs:List SV} {y:l.T} (h:(aC.cons (.const c) l).of (x::xs)=some y):c.same x=true/\l.of xs=some y:=by
 have h:(if c.same x=true then l.of xs else none)=some y:=h
 by_cases hs:c.same x=true
 ·rw [if_pos hs] at h
  exact ⟨hs,h⟩
 ·rw [if_neg hs] at h
  cases h
theorem E1 {e e':TypeId} {r r':aw} {xs:List r'.T} {y:List r.T} (h:(if h:r'=r then (if e'=e then some (bG h xs) else none) else none)=some y):∃ h:r'=r,e'=e/\y=bG h xs:=by
 by_cases hr:r'=r
 ·rw [dif_pos hr] at h
  by_cases he:e'=e
  ·rw [if_pos he] at h
   exact ⟨hr,he,(Option.some.inj h).symm⟩
  ·rw [if_neg he] at h
   cases h
 ·rw [dif_neg hr] at h
  cases h
theorem alM {w:World} {A:Nat->Prop} {β:aP} {c x:SV} {v:Value} (h:c.same x=true) (hx:x.R w A β v):c.R w A β v:=by
 unfold SV.same at h
 split at h
 ·trivial
 ·exact hx
 ·exact hx
 ·exact hx
 ·exact hx
 ·exact hx
 ·exact hx
 ·simp at h; subst h; exact hx
 ·simp at h; obtain ⟨⟨rfl,rfl⟩,rfl⟩:=h; exact hx
 ·simp at h; obtain ⟨⟨rfl,rfl⟩,rfl⟩:=h; exact hx
 ·simp at h; subst h; exact hx
 ·simp at h; obtain ⟨rfl,rfl⟩:=h; exact hx
 ·simp at h; subst h; exact hx
 ·simp at h; subst h; exact hx
 ·cases h
section
variable {w:World} {A:Nat->Prop} {β:aP}
mutual
theorem Sk.of_R:(s:Sk)->(x:SV)->(y:s.T)->(v:Value)->s.of x=some y->x.R w A β v->(s.sv y).R w A β v
 | .const c,x,y,v,h,hx=>by
  simp only [Sk.of] at h
  split at h
  ·rename_i hs; exact alM hs hx
  ·cases h
 | .leaf p,x,y,v,h,hx=>ak.R_sv p y v (ak.of_R p x y v h hx)
 | .piece k,x,y,v,h,hx=>by
  cases x with
  | sl k' off len =>
   have h:(if k=k' then some (off,len) else none)=some y:=h
   by_cases hk:k=k'
   ·subst hk
    rw [if_pos rfl] at h
    cases h
    exact hx
   ·rw [if_neg hk] at h
    cases h
  | _=>simp [Sk.of] at h
 | .agg l,x,y,v,h,hx=>by
  cases x with
  | agg cs =>
   simp only [Sk.of] at h
   simp only [SV.R] at hx
   obtain ⟨vs,hv,hl,h1⟩:=hx
   exact ⟨vs,hv,aC.of_R l cs y vs h hl,h1⟩
  | _=>simp [Sk.of] at h
 | .tup l,x,y,v,h,hx=>by
  cases x with
  | tup cs =>
   simp only [Sk.of] at h
   simp only [SV.R] at hx
   obtain ⟨vs,hv,hl⟩:=hx
   exact ⟨vs,hv,aC.of_R l cs y vs h hl⟩
  | _=>simp [Sk.of] at h
 | .fn f l,x,y,v,h,hx=>by
  cases x with
  | fn f' cs =>
   have h:(if f=f' then l.of cs else none)=some y:=h
   by_cases hf:f=f'
   ·subst hf
    rw [if_pos rfl] at h
    simp only [SV.R] at hx
    obtain ⟨vs,hv,hl⟩:=hx
    exact ⟨vs,hv,aC.of_R l cs y vs h hl⟩
   ·rw [if_neg hf] at h
    cases h
  | _=>simp [Sk.of] at h
theorem aC.of_R:(l:aC)->(xs:List SV)->(y:l.T)->(vs:List Value)->l.of xs=some y->SV.RL w A β xs vs->SV.RL w A β (l.svs y) vs
 | .nil,[],y,vs,h,hx=>hx
 | .nil,_::_,y,vs,h,hx=>by simp [aC.of] at h
 | .cons (.const _) _,[],y,vs,h,hx=>by simp [aC.of] at h
 | .cons (.leaf _) _,[],y,vs,h,hx=>by simp [aC.of] at h
 | .cons (.piece _) _,[],y,vs,h,hx=>by simp [aC.of] at h
 | .cons (.piece k) l,x::xs,y,vs,h,hx=>by
  cases x with
  | sl k' off len =>
   have h:(if k=k' then (match l.of xs with | some b=>some ((off,len),b) | none=>none) else none:Option ((Nat×Nat)×l.T))=some y:=h
   by_cases hk:k=k'
   ·subst hk
    rw [if_pos rfl] at h
    split at h
    ·rename_i b hb
     cases h
     simp only [SV.RL] at hx
     obtain ⟨v,vs',rfl,hx,hl⟩:=hx
     exact ⟨v,vs',rfl,hx,aC.of_R l xs b vs' hb hl⟩
    ·cases h
   ·rw [if_neg hk] at h
    cases h
  | _=>simp [aC.of] at h
 | .cons (.agg _) _,[],y,vs,h,hx=>by simp [aC.of] at h
 | .cons (.tup _) _,[],y,vs,h,hx=>by simp [aC.of] at h
 | .cons (.fn _ _) _,[],y,vs,h,hx=>by simp [aC.of] at h
 | .cons (.fn f l') l,x::xs,y,vs,h,hx=>by
  cases x with
  | fn f' cs =>
   have h:(if f=f' then (match l'.of cs,l.of xs with | some a,some b=>some (a,b) | _,_=>none) else none:Option (l'.T×l.T))=some y:=h
   by_cases hf:f=f'
   ·subst hf
    rw [if_pos rfl] at h
    split at h
    ·rename_i a b ha hb
     cases h
     simp only [SV.RL] at hx
     obtain ⟨v,vs',rfl,hx,hl⟩:=hx
     simp only [SV.R] at hx
     obtain ⟨us,hv,hus⟩:=hx
     exact ⟨v,vs',rfl,⟨us,hv,aC.of_R l' cs a us ha hus⟩,aC.of_R l xs b vs' hb hl⟩
    ·cases h
   ·rw [if_neg hf] at h
    cases h
  | _=>simp [aC.of] at h
 | .cons (.const c) l,x::xs,y,vs,h,hx=>by
  obtain ⟨hs,h⟩:=aC.of_const (c:=c) (l:=l) h
  simp only [SV.RL] at hx
  obtain ⟨v,vs',rfl,hx,hl⟩:=hx
  exact ⟨v,vs',rfl,alM hs hx,aC.of_R l xs y vs' h hl⟩
 | .cons (.leaf p) l,x::xs,y,vs,h,hx=>by
  simp only [aC.of] at h
  split at h
  ·rename_i a b ha hb
   cases h
   simp only [SV.RL] at hx
   obtain ⟨v,vs',rfl,hx,hl⟩:=hx
   exact ⟨v,vs',rfl,ak.R_sv p a v (ak.of_R p x a v ha hx),aC.of_R l xs b vs' hb hl⟩
  ·cases h
 | .cons (.agg l') l,x::xs,y,vs,h,hx=>by
  cases x with
  | agg cs =>
   simp only [aC.of] at h
   split at h
   ·rename_i a b ha hb
    cases h
    simp only [SV.RL] at hx
    obtain ⟨v,vs',rfl,hx,hl⟩:=hx
    simp only [SV.R] at hx
    obtain ⟨us,hv,hus,h1⟩:=hx
    exact ⟨v,vs',rfl,⟨us,hv,aC.of_R l' cs a us ha hus,h1⟩,aC.of_R l xs b vs' hb hl⟩
   ·cases h
  | _=>simp [aC.of] at h
 | .cons (.tup l') l,x::xs,y,vs,h,hx=>by
  cases x with
  | tup cs =>
   simp only [aC.of] at h
   split at h
   ·rename_i a b ha hb
    cases h
    simp only [SV.RL] at hx
    obtain ⟨v,vs',rfl,hx,hl⟩:=hx
    simp only [SV.R] at hx
    obtain ⟨us,hv,hus⟩:=hx
    exact ⟨v,vs',rfl,⟨us,hv,aC.of_R l' cs a us ha hus⟩,aC.of_R l xs b vs' hb hl⟩
   ·cases h
  | _=>simp [aC.of] at h
end
end
inductive jW where
 | cells (l:aC)
 | row (e:TypeId) (r:aw)
 | froz (e:TypeId) (r:aw)
 | map (kr:aw) (agg:Bool) (vp:ak)
 | gone
def jW.T:jW->Type
 | .cells l=>l.T
 | .row _ r=>List r.T
 | .froz _ r=>List r.T
 | .map kr _ vp=>List (kr.T×vp.T)
 | .gone=>Unit
def jW.ob:(o:jW)->o.T->Ob
 | .cells l,x=>.cells (l.svs x)
 | .row e r,x=>.row e r x
 | .froz e r,x=>.froz e r x
 | .map kr agg vp,x=>.map kr agg vp x
 | .gone,_=>.gone
def jW.of:(o:jW)->Ob->Option o.T
 | .cells l,.cells cs=>l.of cs
 | .row e r,.row e' r' xs=>if h:r'=r then (if e'=e then some (bG h xs) else none) else none
 | .froz e r,.froz e' r' xs=>if h:r'=r then (if e'=e then some (bG h xs) else none) else none
 | .map kr agg vp,.map kr' agg' vp' es=>if h:kr'=kr/\vp'=vp then (if agg'=agg then some (EB h.1 h.2 es) else none) else none
 | .gone,.gone=>some ()
 | _,_=>none
theorem jW.of_row {e e':TypeId} {r r':aw} {xs:List r'.T}:(jW.row e r).of (.row e' r' xs)=(if h:r'=r then (if e'=e then some (bG h xs) else none) else none:Option (List r.T)):=rfl
theorem jW.of_froz {e e':TypeId} {r r':aw} {xs:List r'.T}:(jW.froz e r).of (.froz e' r' xs)=(if h:r'=r then (if e'=e then some (bG h xs) else none) else none:Option (List r.T)):=rfl
theorem jW.row_R {w:World} {A:Nat->Prop} {β:aP} {l:LK} {e e':TypeId} {r r':aw} {xs:List r'.T} {y:List r.T} (h:∃ h:r'=r,e'=e/\y=bG h xs) (hx:GR w A β l (.row e' r' xs)):GR w A β l (.row e r y):=by
 obtain ⟨rfl,rfl,rfl⟩:=h
 exact hx
theorem jW.froz_R {w:World} {A:Nat->Prop} {β:aP} {l:LK} {e e':TypeId} {r r':aw} {xs:List r'.T} {y:List r.T} (h:∃ h:r'=r,e'=e/\y=bG h xs) (hx:GR w A β l (.froz e' r' xs)):GR w A β l (.froz e r y):=by
 obtain ⟨rfl,rfl,rfl⟩:=h
 exact hx
theorem jW.of_map {kr kr':aw} {agg agg':Bool} {vp vp':ak} {es:List (kr'.T×vp'.T)} {y:List (kr.T×vp.T)} (h:(jW.map kr agg vp).of (.map kr' agg' vp' es)=some y):∃ (h1:kr'=kr) (h2:vp'=vp),agg'=agg/\y=EB h1 h2 es:=by
 have h:(if h:kr'=kr/\vp'=vp then (if agg'=agg then some (EB h.1 h.2 es) else none) else none:Option (List (kr.T×vp.T)))=some y:=h
 by_cases hk:kr'=kr/\vp'=vp
 ·rw [dif_pos hk] at h
  by_cases ha:agg'=agg
  ·rw [if_pos ha] at h
   exact ⟨hk.1,hk.2,ha,(Option.some.inj h).symm⟩
  ·rw [if_neg ha] at h
   cases h
 ·rw [dif_neg hk] at h
  cases h
theorem jW.map_R {w:World} {A:Nat->Prop} {β:aP} {l:LK} {kr kr':aw} {agg agg':Bool} {vp vp':ak} {es:List (kr'.T×vp'.T)} {y:List (kr.T×vp.T)} (h:∃ (h1:kr'=kr) (h2:vp'=vp),agg'=agg/\y=EB h1 h2 es) (hx:GR w A β l (.map kr' agg' vp' es)):GR w A β l (.map kr agg vp y):=by
 obtain ⟨rfl,rfl,rfl,rfl⟩:=h
 exact hx
theorem jW.of_R {w:World} {A:Nat->Prop} {β:aP} {l:LK}:(o:jW)->(x:Ob)->(y:o.T)->o.of x=some y->GR w A β l x->GR w A β l (o.ob y)
 | .cells s,.cells cs,y,h,hx=>by
  cases l with
  | box b =>
   obtain ⟨vs,t,hh,hrl,h1⟩:=hx
   exact ⟨vs,t,hh,aC.of_R s cs y _ h hrl,h1⟩
  | _=>exact hx.elim
 | .row e r,.row e' r' xs,y,h,hx=>jW.row_R (E1 (jW.of_row.symm.trans h)) hx
 | .froz e r,.froz e' r' xs,y,h,hx=>jW.froz_R (E1 (jW.of_froz.symm.trans h)) hx
 | .gone,.gone,y,h,hx=>hx
 | .map kr agg vp,.map kr' agg' vp' es,y,h,hx=>jW.map_R (jW.of_map h) hx
 | .map _ _ _,.cells _,y,h,hx=>by cases h
 | .map _ _ _,.row _ _ _,y,h,hx=>by cases h
 | .map _ _ _,.froz _ _ _,y,h,hx=>by cases h
 | .map _ _ _,.gone,y,h,hx=>by cases h
 | .cells _,.map _ _ _ _,y,h,hx=>by cases h
 | .row _ _,.map _ _ _ _,y,h,hx=>by cases h
 | .froz _ _,.map _ _ _ _,y,h,hx=>by cases h
 | .gone,.map _ _ _ _,y,h,hx=>by cases h
 | .cells _,.row _ _ _,y,h,hx=>by cases h
 | .cells _,.froz _ _ _,y,h,hx=>by cases h
 | .cells _,.gone,y,h,hx=>by cases h
 | .row _ _,.cells _,y,h,hx=>by cases h
 | .row _ _,.froz _ _ _,y,h,hx=>by cases h
 | .row _ _,.gone,y,h,hx=>by cases h
 | .froz _ _,.cells _,y,h,hx=>by cases h
 | .froz _ _,.row _ _ _,y,h,hx=>by cases h
 | .froz _ _,.gone,y,h,hx=>by cases h
 | .gone,.cells _,y,h,hx=>by cases h
 | .gone,.row _ _ _,y,h,hx=>by cases h
 | .gone,.froz _ _ _,y,h,hx=>by cases h
abbrev aS:=List (Nat×jW)
def aS.T:aS->Type
 | []=>Unit
 | (_,o)::l=>o.T×aS.T l
def aS.mem:(s:aS)->s.T->ar
 | [],_=>[]
 | (k,o)::l,x=>(k,o.ob x.1)::aS.mem l x.2
def aS.keys:aS->List Nat
 | []=>[]
 | (k,_)::l=>k::aS.keys l
def aS.ofs (m:ar):(s:aS)->Option s.T
 | []=>some ()
 | (k,o)::l=>match m.get k with
  | some x=>match o.of x,aS.ofs m l with
   | some a,some b=>some (a,b)
   | _,_=>none
  | none=>none
def aS.of (s:aS) (m:ar):Option s.T :=
 if (aE m).all s.keys.contains=true/\c7 s.keys=true then s.ofs m else none
theorem aS.ofs_get {m:ar}:(s:aS)->(y:s.T)->s.ofs m=some y->c7 s.keys=true->∀ k o',(s.mem y).get k=some o'->∃ x o a,m.get k=some x/\jW.of o x=some a/\o'=o.ob a
 | [],y,h,_,k,o',hg=>by cases hg
 | (q,o)::l,y,h,hd,k,o',hg=>by
  simp only [aS.ofs] at h
  split at h
  ·rename_i x hx
   split at h
   ·rename_i a b ha hb
    cases h
    simp only [aS.keys,c7,Bool.and_eq_true] at hd
    simp only [aS.mem,ar.get] at hg
    split at hg
    ·rename_i hk
     subst hk
     cases hg
     exact ⟨x,o,a,hx,ha,rfl⟩
    ·exact aS.ofs_get l b hb hd.2 k o' hg
   ·cases h
  ·cases h
theorem aS.mem_keys:(s:aS)->(y:s.T)->aE (s.mem y)=s.keys
 | [],_=>rfl
 | (k,o)::l,y=>by simp [aS.mem,aE,aS.keys,aS.mem_keys l y.2]
theorem aS.of_MR {w:World} {Z:Nat->Prop} {β:aP} {m:ar} (s:aS) (y:s.T) (h:s.of m=some y) (hm:MR w Z β m):MR w Z β (s.mem y):=by
 unfold aS.of at h
 split at h
 ·rename_i hc
  obtain ⟨hall,hd⟩:=hc
  have hkeys:∀ k,k∈aE (s.mem y)↔k∈s.keys:=fun k=>by rw [aS.mem_keys]
  refine ⟨fun k o' hk=>?_,fun k l hl=>?_,hm.inj,hm.apart,hm.old⟩
  ·obtain ⟨x,o,a,hx,ha,rfl⟩:=aS.ofs_get s y h hd k o' hk
   obtain ⟨l,hl,hob⟩:=hm.obs k x hx
   exact ⟨l,hl,jW.of_R o x a ha hob⟩
  ·obtain ⟨o,ho⟩:=hm.dom k l hl
   have:k∈s.keys:=by
    have:=List.all_eq_true.1 hall k (fI.2 ⟨o,ho⟩)
    simpa using this
   exact fI.1 ((hkeys k).2 this)
 ·cases h
def ak.exact:ak->SV->Bool
 | .int k,.int k' _=>decide (k=k')
 | .bool,.bool _=>true
 | .str,.str _=>true
 | .slc e r,.ps e' r' _=>decide (e'=e)&&decide (r'=r)
 | _,_=>false
def SV.alive:SV->Bool
 | .dead=>false
 | _=>true
mutual
def Sk.exact:Sk->SV->Bool
 | .const c,x=>c.alive&&c.same x
 | .leaf p,x=>p.exact x
 | .piece k,.sl k' _ _=>decide (k=k')
 | .piece _,_=>false
 | .agg l,.agg cs=>l.exact cs
 | .tup l,.tup cs=>l.exact cs
 | .fn f l,.fn f' cs=>decide (f=f')&&l.exact cs
 | .agg _,_=>false
 | .tup _,_=>false
 | .fn _ _,_=>false
def aC.exact:aC->List SV->Bool
 | .nil,[]=>true
 | .cons s l,x::xs=>s.exact x&&l.exact xs
 | .nil,_::_=>false
 | .cons _ _,[]=>false
end
theorem ak.exact_sv {p:ak} {x:SV} {y:p.T} (h:p.exact x=true) (hy:p.of [] x=some y):p.sv y=x:=by
 cases p with
 | int k =>
  cases x with
  | int k' n =>
   simp only [ak.exact,decide_eq_true_eq] at h
   subst h
   have hy:(if k=k then some n else none)=some y:=hy
   rw [if_pos rfl] at hy
   cases hy
   rfl
  | _=>cases h
 | bool=>cases x with
  | bool b=>cases hy; rfl
  | _=>cases h
 | str=>cases x with
  | str b=>cases hy; rfl
  | _=>cases h
 | slc e r=>cases x with
  | ps e' r' xs =>
   simp only [ak.exact,Bool.and_eq_true,decide_eq_true_eq] at h
   obtain ⟨rfl,rfl⟩:=h
   obtain ⟨h1,h2,h3⟩:=E1 hy
   subst h3
   rfl
  | _=>cases h
theorem SV.same_eq {c x:SV} (ha:c.alive=true) (h:c.same x=true):c=x:=by
 unfold SV.same at h
 split at h
 ·cases ha
 ·rfl
 ·rfl
 ·rfl
 ·rfl
 ·rfl
 ·rfl
 ·simp at h; subst h; rfl
 ·simp at h; obtain ⟨⟨rfl,rfl⟩,rfl⟩:=h; rfl
 ·simp at h; obtain ⟨⟨rfl,rfl⟩,rfl⟩:=h; rfl
 ·simp at h; subst h; rfl
 ·simp at h; obtain ⟨rfl,rfl⟩:=h; rfl
 ·simp at h; subst h; rfl
 ·simp at h; subst h; rfl
 ·cases h
mutual
theorem Sk.exact_sv:(s:Sk)->(x:SV)->(y:s.T)->s.exact x=true->s.of x=some y->s.sv y=x
 | .const c,x,y,h,hy=>by
  simp only [Sk.exact,Bool.and_eq_true] at h
  exact SV.same_eq h.1 h.2
 | .leaf p,x,y,h,hy=>ak.exact_sv h hy
 | .piece k,x,y,h,hy=>by
  cases x with
  | sl k' off len =>
   simp only [Sk.exact,decide_eq_true_eq] at h
   subst h
   have hy:(if k=k then some (off,len) else none)=some y:=hy
   rw [if_pos rfl] at hy
   cases hy
   rfl
  | _=>cases h
 | .agg l,x,y,h,hy=>by
  cases x with
  | agg cs=>simp only [Sk.sv]; rw [aC.exact_sv l cs y h hy]
  | _=>cases h
 | .tup l,x,y,h,hy=>by
  cases x with
  | tup cs=>simp only [Sk.sv]; rw [aC.exact_sv l cs y h hy]
  | _=>cases h
 | .fn f l,x,y,h,hy=>by
  cases x with
  | fn f' cs =>
   simp only [Sk.exact,Bool.and_eq_true,decide_eq_true_eq] at h
   obtain ⟨rfl,h⟩:=h
   have hy:(if f=f then l.of cs else none)=some y:=hy
   rw [if_pos rfl] at hy
   simp only [Sk.sv]; rw [aC.exact_sv l cs y h hy]
  | _=>cases h
theorem aC.exact_sv:(l:aC)->(xs:List SV)->(y:l.T)->l.exact xs=true->l.of xs=some y->l.svs y=xs
 | .nil,[],y,_,_=>rfl
 | .nil,_::_,y,h,_=>by cases h
 | .cons _ _,[],y,h,_=>by simp [aC.exact] at h
 | .cons (.const c) l,x::xs,y,h,hy=>by
  simp only [aC.exact,Sk.exact,Bool.and_eq_true] at h
  obtain ⟨_,hy⟩:=aC.of_const hy
  simp only [aC.svs]
  rw [SV.same_eq h.1.1 h.1.2,aC.exact_sv l xs y h.2 hy]
 | .cons (.leaf p) l,x::xs,y,h,hy=>by
  simp only [aC.exact,Sk.exact,Bool.and_eq_true] at h
  simp only [aC.of] at hy
  split at hy
  ·rename_i a b ha hb
   cases hy
   simp only [aC.svs]
   rw [ak.exact_sv h.1 ha,aC.exact_sv l xs b h.2 hb]
  ·cases hy
 | .cons (.piece k) l,x::xs,y,h,hy=>by
  cases x with
  | sl k' off len =>
   simp only [aC.exact,Sk.exact,Bool.and_eq_true,decide_eq_true_eq] at h
   obtain ⟨rfl,h2⟩:=h
   have hy:(if k=k then (match l.of xs with | some b=>some ((off,len),b) | none=>none) else none:Option ((Nat×Nat)×l.T))=some y:=hy
   rw [if_pos rfl] at hy
   split at hy
   ·rename_i b hb
    cases hy
    simp only [aC.svs]
    rw [aC.exact_sv l xs b h2 hb]
   ·cases hy
  | _=>simp [aC.exact,Sk.exact] at h
 | .cons (.agg l') l,x::xs,y,h,hy=>by
  cases x with
  | agg cs =>
   simp only [aC.exact,Sk.exact,Bool.and_eq_true] at h
   simp only [aC.of] at hy
   split at hy
   ·rename_i a b ha hb
    cases hy
    simp only [aC.svs]
    rw [aC.exact_sv l' cs a h.1 ha,aC.exact_sv l xs b h.2 hb]
   ·cases hy
  | _=>simp [aC.exact,Sk.exact] at h
 | .cons (.tup l') l,x::xs,y,h,hy=>by
  cases x with
  | tup cs =>
   simp only [aC.exact,Sk.exact,Bool.and_eq_true] at h
   simp only [aC.of] at hy
   split at hy
   ·rename_i a b ha hb
    cases hy
    simp only [aC.svs]
    rw [aC.exact_sv l' cs a h.1 ha,aC.exact_sv l xs b h.2 hb]
   ·cases hy
  | _=>simp [aC.exact,Sk.exact] at h
 | .cons (.fn f l') l,x::xs,y,h,hy=>by
  cases x with
  | fn f' cs =>
   simp only [aC.exact,Sk.exact,Bool.and_eq_true,decide_eq_true_eq] at h
   obtain ⟨⟨rfl,h1⟩,h2⟩:=h
   have hy:(if f=f then (match l'.of cs,l.of xs with | some a,some b=>some (a,b) | _,_=>none) else none:Option (l'.T×l.T))=some y:=hy
   rw [if_pos rfl] at hy
   split at hy
   ·rename_i a b ha hb
    cases hy
    simp only [aC.svs]
    rw [aC.exact_sv l' cs a h1 ha,aC.exact_sv l xs b h2 hb]
   ·cases hy
  | _=>simp [aC.exact,Sk.exact] at h
end
def jW.exact:jW->Ob->Bool
 | .cells l,.cells cs=>l.exact cs
 | .row e r,.row e' r' _=>decide (e'=e)&&decide (r'=r)
 | .froz e r,.froz e' r' _=>decide (e'=e)&&decide (r'=r)
 | .map kr agg vp,.map kr' agg' vp' _=>decide (kr'=kr)&&(decide (vp'=vp)&&decide (agg'=agg))
 | .gone,.gone=>true
 | _,_=>false
theorem jW.exact_ob {o:jW} {x:Ob} {y:o.T} (h:o.exact x=true) (hy:o.of x=some y):o.ob y=x:=by
 cases o with
 | cells l=>cases x with
  | cells cs=>simp only [jW.ob]; rw [aC.exact_sv l cs y h hy]
  | _=>cases h
 | row e r=>cases x with
  | row e' r' xs =>
   simp only [jW.exact,Bool.and_eq_true,decide_eq_true_eq] at h
   obtain ⟨rfl,rfl⟩:=h
   obtain ⟨h1,h2,h3⟩:=E1 (jW.of_row.symm.trans hy)
   subst h3
   rfl
  | _=>cases h
 | froz e r=>cases x with
  | froz e' r' xs =>
   simp only [jW.exact,Bool.and_eq_true,decide_eq_true_eq] at h
   obtain ⟨rfl,rfl⟩:=h
   obtain ⟨h1,h2,h3⟩:=E1 (jW.of_froz.symm.trans hy)
   subst h3
   rfl
  | _=>cases h
 | map kr agg vp=>cases x with
  | map kr' agg' vp' es =>
   simp only [jW.exact,Bool.and_eq_true,decide_eq_true_eq] at h
   obtain ⟨rfl,rfl,rfl⟩:=h
   obtain ⟨_,_,_,h3⟩:=jW.of_map hy
   subst h3
   rfl
  | _=>cases h
 | gone=>cases x with
  | gone=>rfl
  | _=>cases h
def aS.exactOn (kept:List Nat) (m:ar):aS->Bool
 | []=>true
 | (k,o)::l=>(match kept.contains k with
  | true=>match m.get k with
   | some x=>o.exact x
   | none=>false
  | false=>true)&&aS.exactOn kept m l
theorem aS.exactOn_get {kept:List Nat} {m:ar} {k:Nat} (hk:k∈kept):∀ (s:aS) (y:s.T),s.exactOn kept m=true->s.ofs m=some y->k∈s.keys->(s.mem y).get k=m.get k
 | [],y,_,_,h=>by cases h
 | (q,o)::l,y,he,hy,h=>by
  simp only [aS.exactOn,Bool.and_eq_true] at he
  simp only [aS.ofs] at hy
  split at hy
  ·rename_i x hx
   split at hy
   ·rename_i a b ha hb
    cases hy
    simp only [aS.mem,ar.get]
    by_cases hq:k=q
    ·subst hq
     rw [if_pos rfl]
     have h1:=he.1
     rw [show kept.contains k=true by simpa using hk,hx] at h1
     rw [hx,jW.exact_ob h1 ha]
    ·rw [if_neg hq]
     rcases List.mem_cons.1 h with h | h
     ·exact (hq h).elim
     ·exact aS.exactOn_get hk l b he.2 hb h
   ·cases hy
  ·cases hy
structure aA where
 res:Sk
 mem:aS
def aA.T (o:aA):Type:=o.res.T×o.mem.T
def lQ:List aA->Type
 | []=>Empty
 | [o]=>o.T
 | o::o'::l=>o.T⊕lQ (o'::l)
def cq:(l:List aA)->lQ l->SV×ar
 | [o],x=>(o.res.sv x.1,o.mem.mem x.2)
 | o::_::_,.inl x=>(o.res.sv x.1,o.mem.mem x.2)
 | _::o'::l,.inr x=>cq (o'::l) x
def aj {α:Type}:(l:List aA)->lQ l->(SV->ar->Option α)->Option α
 | [],_,_=>none
 | [o],x,K=>K (o.res.sv x.1) (o.mem.mem x.2)
 | o::o'::l,x,K=>Sum.elim (α:=o.T) (β:=lQ (o'::l)) (fun x=>K (o.res.sv x.1) (o.mem.mem x.2)) (fun x=>aj (o'::l) x K) x
theorem ik {α:Type}:(l:List aA)->(x:lQ l)->(K:SV->ar->Option α)->aj l x K=K (cq l x).1 (cq l x).2
 | [o],x,K=>rfl
 | o::_::_,.inl x,K=>rfl
 | _::o'::l,.inr x,K=>ik (o'::l) x K
structure bu where
 args:aC
 mem:aS
 outs:List aA
 F:args.T->mem.T->Option (lQ outs)
def bu.kept (c:bu):List Nat:=c.mem.keys.filter fun k=>c.outs.any fun o=>!o.mem.keys.contains k
def bu.run {α:Type} (c:bu) (args:List SV) (m:ar) (K:SV->ar->Option α):Option α :=
 match c.args.of args,c.mem.of m with
 | some a,some b=>match c.mem.exactOn c.kept m with
  | true=>(c.F a b).bind fun r=>aj c.outs r K
  | false=>none
 | _,_=>none
theorem E2:(l:List aA)->(r:lQ l)->∃ o,o∈l/\aE (cq l r).2=o.mem.keys
 | [o],x=>⟨o,by simp,aS.mem_keys o.mem x.2⟩
 | o::o'::l,.inl x=>⟨o,by simp,aS.mem_keys o.mem x.2⟩
 | o::o'::l,.inr x=>by
  obtain ⟨o2,h1,h2⟩:=E2 (o'::l) x
  exact ⟨o2,List.mem_cons_of_mem _ h1,h2⟩
def aq (P:Program) (f:FuncId) (c:bu):Prop:=∀ a b r,c.F a b=some r->uH P f (c.args.svs a) (c.mem.mem b) (cq c.outs r).1 (cq c.outs r).2
theorem bu.run_ok {P:Program} {f:FuncId} {c:bu} (hc:aq P f c) {args:List SV} {m:ar} {v:SV} {m':ar} (h:c.run args m (fun v m'=>some (v,m'))=some (v,m')):uH P f args m v m':=by
 unfold bu.run at h
 split at h
 ·rename_i a b ha hb
  split at h
  rotate_left
  ·cases h
  rename_i hex
  obtain ⟨r,hr,h⟩:=Option.bind_eq_some_iff.1 h
  rw [ik] at h
  simp only [Option.some.injEq,Prod.mk.injEq] at h
  obtain ⟨rfl,rfl⟩:=h
  intro w Z β vs hm hx
  refine (hc a b r hr w Z β vs (aS.of_MR c.mem b hb hm) (aC.of_R c.args args a vs ha hx)).mono fun u w' ⟨β',h1,h2,h3⟩=>⟨β',h1,?_,h3⟩
  have hall:(aE m).all c.mem.keys.contains=true/\c7 c.mem.keys=true/\c.mem.ofs m=some b:=by
   unfold aS.of at hb
   split at hb
   ·rename_i hc2; exact ⟨hc2.1,hc2.2,hb⟩
   ·cases hb
  obtain ⟨hall,hdis,hofs⟩:=hall
  refine h2.congr fun q=>?_
  by_cases hq:q∈aE (cq c.outs r).2
  ·exact PV _ _ _ hq
  ·rw [ES _ _ hq,ES _ _ hq]
   by_cases hk:q∈c.mem.keys
   ·have hkept : q ∈ c.kept := by
     unfold bu.kept
     refine List.mem_filter.2 ⟨hk,?_⟩
     obtain ⟨o,ho,he⟩:=E2 c.outs r
     rw [he] at hq
     exact List.any_eq_true.2 ⟨o,ho,by simpa using hq⟩
    exact (aS.exactOn_get hkept c.mem b hex hofs hk).symm
   ·have e1 : m.get q = none := by
     cases hg:m.get q with
     | none=>rfl
     | some o =>
      have:=List.all_eq_true.1 hall q (fI.2 ⟨o,hg⟩)
      exact (hk (by simpa using this)).elim
    have e2:(c.mem.mem b).get q=none:=by
     cases hg:(c.mem.mem b).get q with
     | none=>rfl
     | some o =>
      have:=fI.2 ⟨o,hg⟩
      rw [aS.mem_keys] at this
      exact (hk this).elim
    rw [e1,e2]
 ·cases h
theorem alN {P:Program} {f:FuncId} {args:aC} {mem:aS} {outs outs':List aA} {F:args.T->mem.T->Option (lQ outs)} {F':args.T->mem.T->Option (lQ outs')} (h:aq P f ⟨args,mem,outs,F⟩)
  (hF:∀ a b r',F' a b=some r'->∃ r,F a b=some r/\(cq outs' r').1=(cq outs r).1/\∀ q,((mem.mem b).sets (cq outs' r').2).get q=((mem.mem b).sets (cq outs r).2).get q):aq P f ⟨args,mem,outs',F'⟩:=by
 intro a b r' hr' w Z β vs hm hx
 obtain ⟨r,hr,h1,h2⟩:=hF a b r' hr'
 refine (h a b r hr w Z β vs hm hx).mono fun u w' ⟨β',k1,k2,k3⟩=>⟨β',k1,k2.congr h2,?_⟩
 show SV.R _ _ _ (cq outs' r').1 _
 rw [h1]
 exact k3
theorem bE {P:Program} {f:FuncId} {args:aC} {mem:aS} {res:Sk} {F:args.T->mem.T->Option (lQ [⟨res,mem⟩])} (h:aq P f ⟨args,mem,[⟨res,mem⟩],F⟩) (hd:c7 mem.keys=true) (hF:∀ a b r,F a b=some r->r.2=b) :
  aq P f ⟨args,mem,[⟨res,[]⟩],fun a b=>(F a b).map fun r=>(r.1,())⟩:=by
 refine alN h fun a b r' hr'=>?_
 obtain ⟨r,hr,rfl⟩:=Option.map_eq_some_iff.1 hr'
 refine ⟨r,hr,rfl,fun q=>?_⟩
 have:=hF a b r hr
 show ((mem.mem b).sets []).get q=((mem.mem b).sets (mem.mem r.2)).get q
 rw [this]
 have key:∀ (l m:ar),(∀ k o,(k,o)∈l->m.get k=some o)->(m.sets l).get q=m.get q:=by
  intro l
  induction l with
  | nil=>intro m _; rfl
  | cons x l ih =>
   obtain ⟨k,o⟩:=x
   intro m hl
   simp only [ar.sets]
   have hk:=hl k o List.mem_cons_self
   have e:∀ j,(m.set k o).get j=m.get j:=by
    intro j
    rw [ar.get_set]
    split
    ·rename_i hj; rw [hj,hk]
    ·rfl
   rw [ih _ fun k' o' h'=>by rw [e]; exact hl k' o' (List.mem_cons_of_mem _ h'),e]
 have hd:(aE (mem.mem b)).Nodup:=by rw [aS.mem_keys]; exact fR hd
 exact (key _ _ fun k o hk=>sW hd hk).symm
structure eh where
 out:iW
 tmps:aC
 mem:aS
def eh.T (o:eh):Type:=o.tmps.T×o.mem.T
def m8:List eh->Type
 | []=>Empty
 | [o]=>o.T
 | o::o'::l=>o.T⊕m8 (o'::l)
def lH:(l:List eh)->m8 l->iW×St
 | [o],x=>(o.out,⟨o.tmps.svs x.1,o.mem.mem x.2⟩)
 | o::_::_,.inl x=>(o.out,⟨o.tmps.svs x.1,o.mem.mem x.2⟩)
 | _::o'::l,.inr x=>lH (o'::l) x
def aR {α:Type}:(l:List eh)->m8 l->(iW->St->Option α)->Option α
 | [],_,_=>none
 | [o],x,K=>K o.out ⟨o.tmps.svs x.1,o.mem.mem x.2⟩
 | o::o'::l,x,K=>Sum.elim (α:=o.T) (β:=m8 (o'::l)) (fun x=>K o.out ⟨o.tmps.svs x.1,o.mem.mem x.2⟩) (fun x=>aR (o'::l) x K) x
theorem fk {α:Type}:(l:List eh)->(x:m8 l)->(K:iW->St->Option α)->aR l x K=K (lH l x).1 (lH l x).2
 | [o],x,K=>rfl
 | o::_::_,.inl x,K=>rfl
 | _::o'::l,.inr x,K=>fk (o'::l) x K
def Cu {S R:Type} (fP:S->Option (S⊕R)):Nat->S->Option R
 | 0,_=>none
 | n+1,s=>(fP s).bind fun
  | .inl s'=>Cu fP n s'
  | .inr r=>some r
open Classical in
noncomputable def dP {S R:Type} (fP:S->Option (S⊕R)) (s:S):Option R :=
 if h:∃ n r,Cu fP n s=some r then some h.choose_spec.choose else none
theorem GP {S R:Type} {fP:S->Option (S⊕R)}:∀ {n k:Nat} {s:S} {r:R},n<=k->Cu fP n s=some r->Cu fP k s=some r
 | 0,k,s,r,_,h=>by cases h
 | n+1,0,s,r,hk,h=>by omega
 | n+1,k+1,s,r,hk,h=>by
  simp only [Cu] at h ⊢
  obtain ⟨x,hx,h⟩:=Option.bind_eq_some_iff.1 h
  rw [hx]
  cases x with
  | inl s'=>exact GP (by omega) h
  | inr r'=>exact h
theorem PY {S R:Type} {fP:S->Option (S⊕R)} {n:Nat} {s:S} {r:R} (h:Cu fP n s=some r):dP fP s=some r:=by
 unfold dP
 have hex:∃ n r,Cu fP n s=some r:=⟨n,r,h⟩
 rw [dif_pos hex]
 have h2:=hex.choose_spec.choose_spec
 have h3:=GP (Nat.le_max_left hex.choose n) h2
 have h4:=GP (Nat.le_max_right hex.choose n) h
 rw [h3] at h4
 exact h4
theorem w9 {S R:Type} {fP:S->Option (S⊕R)} {s:S} {r:R} (h:dP fP s=some r):∃ n,Cu fP n s=some r:=by
 unfold dP at h
 split at h
 ·rename_i hex
  cases h
  exact ⟨_,hex.choose_spec.choose_spec⟩
 ·cases h
theorem ao9 {S R:Type} (fP:S->Option (S⊕R)) (s:S):dP fP s=(fP s).bind fun
  | .inl s'=>dP fP s'
  | .inr r=>some r:=by
 cases hs:fP s with
 | none =>
  cases hr:dP fP s with
  | none=>rfl
  | some r =>
   obtain ⟨n,hn⟩:=w9 hr
   cases n with
   | zero=>cases hn
   | succ n=>simp [Cu,hs] at hn
 | some x =>
  cases x with
  | inr r=>exact PY (n:=1) (by simp [Cu,hs])
  | inl s' =>
   simp only [Option.bind_some]
   cases hr:dP fP s' with
   | some r =>
    obtain ⟨n,hn⟩:=w9 hr
    exact PY (n:=n+1) (by simp [Cu,hs,hn])
   | none =>
    cases hr2:dP fP s with
    | none=>rfl
    | some r =>
     obtain ⟨n,hn⟩:=w9 hr2
     cases n with
     | zero=>cases hn
     | succ n =>
      simp only [Cu,hs,Option.bind_some] at hn
      rw [PY hn] at hr
      cases hr
structure cc where
 tmps:aC
 mem:aS
 outs:List eh
 F:tmps.T->mem.T->Option (m8 outs)
def cc.st (c:cc) (p:c.tmps.T×c.mem.T):St:=⟨c.tmps.svs p.1,c.mem.mem p.2⟩
def cc.run {α:Type} (c:cc) (st:St) (K:iW->St->Option α):Option α :=
 match c.tmps.of st.tmps,c.mem.of st.mem with
 | some a,some b=>(c.F a b).bind fun r=>aR c.outs r K
 | _,_=>none
def bK (P:Program) (b:C2) (c:cc):Prop:=∀ x y r,c.F x y=some r->Kx P b (c.st (x,y)) (lH c.outs r).1 (lH c.outs r).2
def Fy (P:Program) (b:C2) (c:cc):Prop:=∀ x y r,c.F x y=some r->EY P b (c.st (x,y)) (lH c.outs r).1 (lH c.outs r).2
theorem aC.svs_len:(l:aC)->(xs:List SV)->(y:l.T)->l.of xs=some y->(l.svs y).length=xs.length
 | .nil,[],y,h=>rfl
 | .nil,_::_,y,h=>by simp [aC.of] at h
 | .cons (.const _) _,[],y,h=>by simp [aC.of] at h
 | .cons (.leaf _) _,[],y,h=>by simp [aC.of] at h
 | .cons (.agg _) _,[],y,h=>by simp [aC.of] at h
 | .cons (.tup _) _,[],y,h=>by simp [aC.of] at h
 | .cons (.fn _ _) _,[],y,h=>by simp [aC.of] at h
 | .cons (.piece _) _,[],y,h=>by simp [aC.of] at h
 | .cons (.piece k) l,x::xs,y,h=>by
  cases x with
  | sl k' off len =>
   have h:(if k=k' then (match l.of xs with | some b=>some ((off,len),b) | none=>none) else none:Option ((Nat×Nat)×l.T))=some y:=h
   by_cases hk:k=k'
   ·rw [if_pos hk] at h
    split at h
    ·rename_i b hb
     cases h
     simp [aC.svs,aC.svs_len l xs b hb]
    ·cases h
   ·rw [if_neg hk] at h
    cases h
  | _=>simp [aC.of] at h
 | .cons (.fn f l') l,x::xs,y,h=>by
  cases x with
  | fn f' cs =>
   have h:(if f=f' then (match l'.of cs,l.of xs with | some a,some b=>some (a,b) | _,_=>none) else none:Option (l'.T×l.T))=some y:=h
   by_cases hf:f=f'
   ·rw [if_pos hf] at h
    split at h
    ·rename_i a b ha hb
     cases h
     simp [aC.svs,aC.svs_len l xs b hb]
    ·cases h
   ·rw [if_neg hf] at h
    cases h
  | _=>simp [aC.of] at h
 | .cons (.const c) l,x::xs,y,h=>by
  obtain ⟨hs,h⟩:=aC.of_const (c:=c) (l:=l) h
  have:=aC.svs_len l xs y h
  simp only [aC.svs,List.length_cons]
  rw [this]
 | .cons (.leaf p) l,x::xs,y,h=>by
  simp only [aC.of] at h
  split at h
  ·rename_i a b ha hb
   cases h
   simp [aC.svs,aC.svs_len l xs b hb]
  ·cases h
 | .cons (.agg l') l,x::xs,y,h=>by
  cases x with
  | agg cs =>
   simp only [aC.of] at h
   split at h
   ·rename_i a b ha hb
    cases h
    simp [aC.svs,aC.svs_len l xs b hb]
   ·cases h
  | _=>simp [aC.of] at h
 | .cons (.tup l') l,x::xs,y,h=>by
  cases x with
  | tup cs =>
   simp only [aC.of] at h
   split at h
   ·rename_i a b ha hb
    cases h
    simp [aC.svs,aC.svs_len l xs b hb]
   ·cases h
  | _=>simp [aC.of] at h
theorem apa {w:World} {A:Nat->Prop} {β:aP} {l:List SV} {vs:List Value} (h:SV.RL w A β l vs) (i:Nat):(l.getD i .dead).R w A β (vs.getD i undef):=by
 cases hx:l[i]? with
 | none=>simp [List.getD,hx,SV.R]
 | some x =>
  obtain ⟨v,hv,hr⟩:=SV.RL_get _ _ h i x hx
  simpa [List.getD,hx,hv] using hr
theorem FR.of {w:World} {A:Nat->Prop} {β:aP} {l:aC} {ts:List SV} {a:Act} (hF:FR w A β ts a) {y:l.T} (h:l.of ts=some y):FR w A β (l.svs y) a:=by
 have hRL:SV.RL w A β ts a.tmps.toList:=SV.RL_of_get _ _ (by simpa using hF.len) fun i x v hx hv=>by
  have:=hF.val i
  simpa [List.getD,hx,show a.tmps[i]? = some v by simpa using hv] using this
 refine ⟨by rw [aC.svs_len l ts y h]; exact hF.len,fun i=>?_,hF.defers⟩
 have:=apa (aC.of_R l ts y _ h hRL) i
 simpa [List.getD] using this
theorem cc.run_ok {P:Program} {b:C2} {c:cc} (hc:bK P b c) {st st':St} {o:iW} (h:c.run st (fun o s=>some (o,s))=some (o,st')):Kx P b st o st':=by
 unfold cc.run at h
 split at h
 ·rename_i x y hx hy
  obtain ⟨r,hr,h⟩:=Option.bind_eq_some_iff.1 h
  rw [fk] at h
  simp only [Option.some.injEq,Prod.mk.injEq] at h
  obtain ⟨rfl,rfl⟩:=h
  intro an cd hcd w Z β a Q hF hm hQ
  exact hc x y r hr an cd hcd w Z β a Q (hF.of hx) (aS.of_MR c.mem y hy hm) hQ
 ·cases h
theorem cc.run_okP {P:Program} {b:C2} {c:cc} (hc:Fy P b c) {st st':St} {o:iW} (h:c.run st (fun o s=>some (o,s))=some (o,st')):EY P b st o st':=by
 unfold cc.run at h
 split at h
 ·rename_i x y hx hy
  obtain ⟨r,hr,h⟩:=Option.bind_eq_some_iff.1 h
  rw [fk] at h
  simp only [Option.some.injEq,Prod.mk.injEq] at h
  obtain ⟨rfl,rfl⟩:=h
  intro an cd hcd w Z β a Q hF hm hQ
  exact hc x y r hr an cd hcd w Z β a Q (hF.of hx) (aS.of_MR c.mem y hy hm) hQ
 ·cases h
def yk {α:Type} (k:Nat):List (Nat×α)->Option α
 | []=>none
 | (q,x)::l=>if k=q then some x else yk k l
def pk {α:Type} (f:Nat) (args:List SV) (m:ar) (K:SV->ar->Option α):List (Nat×bu)->Option α
 | []=>none
 | (q,c)::l=>match Nat.beq f q with
  | true=>match c.args.of args,c.mem.of m with
   | some a,some b=>match c.mem.exactOn c.kept m with
    | true=>(c.F a b).bind fun r=>aj c.outs r K
    | false=>pk f args m K l
   | _,_=>pk f args m K l
  | false=>pk f args m K l
theorem uu {α:Type} {f:Nat} {args:List SV} {m:ar} (K:SV->ar->Option α):∀ (l:List (Nat×bu)),pk f args m K l=(pk f args m (fun v m'=>some (v,m')) l).bind fun p=>K p.1 p.2
 | []=>rfl
 | (q,c)::l=>by
  simp only [pk]
  split
  ·split
   ·split
    ·rw [Option.bind_assoc]
     congr 1
     funext r
     rw [ik,ik]
     rfl
    ·exact uu K l
   ·exact uu K l
  ·exact uu K l
theorem tc {P:Program} {f:Nat} {args:List SV} {m m':ar} {v:SV}:∀ (l:List (Nat×bu)),(∀ p,p∈l->aq P p.1 p.2)->pk f args m (fun v m'=>some (v,m')) l=some (v,m')->uH P f args m v m'
 | [],_,h=>by cases h
 | (q,c)::l,hl,h=>by
  simp only [pk] at h
  split at h
  ·rename_i hq
   obtain rfl:f=q:=Nat.eq_of_beq_eq_true hq
   split at h
   ·rename_i a b ha hb
    split at h
    ·rename_i hex
     refine bu.run_ok (hl (f,c) List.mem_cons_self) ?_
     unfold bu.run
     rw [ha,hb]
     dsimp only
     rw [hex]
     exact h
    ·exact tc l (fun p hp=>hl p (List.mem_cons_of_mem _ hp)) h
   ·exact tc l (fun p hp=>hl p (List.mem_cons_of_mem _ hp)) h
  ·exact tc l (fun p hp=>hl p (List.mem_cons_of_mem _ hp)) h
def il {α:Type} (id:Nat) (st:St) (K:iW->St->Option α):List (Nat×cc)->Option α
 | []=>none
 | (q,c)::l=>match Nat.beq id q with
  | true=>match c.tmps.of st.tmps,c.mem.of st.mem with
   | some a,some b=>(c.F a b).bind fun r=>aR c.outs r K
   | _,_=>il id st K l
  | false=>il id st K l
theorem pm {α:Type} {id:Nat} {st:St} (K:iW->St->Option α):∀ (l:List (Nat×cc)),il id st K l=(il id st (fun o s=>some (o,s)) l).bind fun p=>K p.1 p.2
 | []=>rfl
 | (q,c)::l=>by
  simp only [il]
  split
  ·split
   ·rw [Option.bind_assoc]
    congr 1
    funext r
    rw [fk,fk]
    rfl
   ·exact pm K l
  ·exact pm K l
theorem zS {P:Program} {b:C2} {id:Nat} {st st':St} {o:iW}:∀ (l:List (Nat×cc)),(∀ p,p∈l->p.1=id->bK P b p.2)->il id st (fun o s=>some (o,s)) l=some (o,st')->Kx P b st o st'
 | [],_,h=>by cases h
 | (q,c)::l,hl,h=>by
  simp only [il] at h
  split at h
  ·rename_i hq
   obtain rfl:id=q:=Nat.eq_of_beq_eq_true hq
   split at h
   ·rename_i a b ha hb
    refine cc.run_ok (hl (id,c) List.mem_cons_self rfl) ?_
    unfold cc.run
    rw [ha,hb]
    exact h
   ·exact zS l (fun p hp=>hl p (List.mem_cons_of_mem _ hp)) h
  ·exact zS l (fun p hp=>hl p (List.mem_cons_of_mem _ hp)) h
theorem xR {P:Program} {b:C2} {id:Nat} {st st':St} {o:iW}:∀ (l:List (Nat×cc)),(∀ p,p∈l->p.1=id->Fy P b p.2)->il id st (fun o s=>some (o,s)) l=some (o,st')->EY P b st o st'
 | [],_,h=>by cases h
 | (q,c)::l,hl,h=>by
  simp only [il] at h
  split at h
  ·rename_i hq
   obtain rfl:id=q:=Nat.eq_of_beq_eq_true hq
   split at h
   ·rename_i a b ha hb
    refine cc.run_okP (hl (id,c) List.mem_cons_self rfl) ?_
    unfold cc.run
    rw [ha,hb]
    exact h
   ·exact xR l (fun p hp=>hl p (List.mem_cons_of_mem _ hp)) h
  ·exact xR l (fun p hp=>hl p (List.mem_cons_of_mem _ hp)) h
def ao (calls:List (Nat×bu)) (loops:List (Nat×cc)):CB where
 call f args m K:=pk f args m K calls
 loop an b st K:=match Nat.ble 100000 an.id with
  | true=>none
  | false=>il an.id st K loops
 join an b st K:=match Nat.ble 100000 an.id with
  | true=>il an.id st K loops
  | false=>none
def CB.unroll (cb:CB) (byRef:FuncId->CC) (us:List (_root_.Nat×_root_.Nat)):CB where
 call f args m K:=cb.call f args m K
 loop an b st K:=match yk an.id us with
  | some n=>rounds cb byRef an b n st K
  | none=>cb.loop an b st K
 join an b st K:=cb.join an b st K
theorem E5 (calls:List (Nat×bu)) (loops:List (Nat×cc)):(ao calls loops).Nat where
 call f args m K:=uu K calls
 loop an b st K:=by
  simp only [ao]
  split
  ·rfl
  ·exact pm K loops
 join an b st K:=by
  simp only [ao]
  split
  ·exact pm K loops
  ·rfl
def xS:List (cF×C2)->List Nat
 | []=>[]
 | p::l=>p.1.id::xS l
def js:List (cF×C2)->List (Nat×C2)
 | []=>[]
 | p::l=>(p.1.id,p.2)::js l
theorem SN:∀ {l:List (cF×C2)},c7 (xS l)=true->∀ p,p∈l->yk p.1.id (js l)=some p.2
 | [],_,p,hp=>by cases hp
 | q::l,hd,p,hp=>by
  simp only [xS,c7,Bool.and_eq_true] at hd
  simp only [js,yk]
  rcases List.mem_cons.1 hp with rfl | hp
  ·rw [if_pos rfl]
  ·rw [if_neg]
   ·exact SN hd.2 p hp
   ·intro he
    have hin:∀ {l:List (cF×C2)} {p},p∈l->p.1.id∈xS l:=by
     intro l
     induction l with
     | nil=>intro p hp; cases hp
     | cons x l ih =>
      intro p hp
      rcases List.mem_cons.1 hp with rfl | hp
      ·exact List.mem_cons_self
      ·exact List.mem_cons_of_mem _ (ih hp)
    have:=hin hp
    rw [he] at this
    simp [this] at hd
theorem E3 {id:Nat} {b:C2}:∀ {l:List (cF×C2)},yk id (js l)=some b->∃ p,p∈l/\p.1.id=id/\p.2=b
 | [],h=>by cases h
 | q::l,h=>by
  simp only [js,yk] at h
  split at h
  ·rename_i hk
   cases h
   exact ⟨q,List.mem_cons_self,hk.symm,rfl⟩
  ·obtain ⟨p,hp,h1⟩:=E3 h
   exact ⟨p,List.mem_cons_of_mem _ hp,h1⟩
theorem im:∀ {c:C2} {p q:cF×C2},p∈bP c->q∈bP p.2->q∈bP c
 | .seq a b,p,q,hp,hq=>by
  rcases List.mem_append.1 hp with h | h
  ·exact List.mem_append_left _ (im h hq)
  ·exact List.mem_append_right _ (im h hq)
 | .cond _ a b,p,q,hp,hq=>by
  rcases List.mem_append.1 hp with h | h
  ·exact List.mem_append_left _ (im h hq)
  ·exact List.mem_append_right _ (im h hq)
 | .block _ b,p,q,hp,hq=>im (c:=b) hp hq
 | .loop an b,p,q,hp,hq=>by
  rcases List.mem_cons.1 hp with rfl | h
  ·exact List.mem_cons_of_mem _ hq
  ·exact List.mem_cons_of_mem _ (im h hq)
 | .join an b,p,q,hp,hq=>by
  rcases List.mem_cons.1 hp with rfl | h
  ·exact List.mem_cons_of_mem _ hq
  ·exact List.mem_cons_of_mem _ (im h hq)
 | .skip,p,q,hp,hq=>by cases hp
 | .region _ _,p,q,hp,hq=>by cases hp
 | .exit _,p,q,hp,hq=>by cases hp
 | .ret,p,q,hp,hq=>by cases hp
 | .stuck,p,q,hp,hq=>by cases hp
def FD.isLoop (fd:FD) (an:cF) (b:C2):Prop:=yk an.id (js (bP fd.body))=some b
def FD.loop (fd:FD) (id:Nat):C2:=(yk id (js (bP fd.body))).getD .stuck
section
variable {P:Program} {fd:FD} {calls:List (Nat×bu)} {loops:List (Nat×cc)} {byRef:FuncId->CC}
def KC (P:Program) (fd:FD) (p:Nat×cc):Prop :=
 match Nat.ble 100000 p.1 with
 | true=>Fy P (fd.loop p.1) p.2
 | false=>bK P (fd.loop p.1) p.2
structure al (P:Program) (fd:FD) (calls:List (Nat×bu)) (loops:List (Nat×cc)):Prop where
 mix:P.follows .mixedOrders=true
 ids:c7 (xS (bP fd.body))=true
 calls:∀ p,p∈calls->aq P p.1 p.2
 loops:∀ p,p∈loops->KC P fd p
theorem al.ok (k:al P fd calls loops):(ao calls loops).OK P fd.isLoop where
 nat:=E5 calls loops
 calls:=⟨fun {f args m v m'} h=>tc calls k.calls h⟩
 loop:=fun {an b st st' o} hB h=>by
  simp only [ao] at h
  split at h
  ·cases h
  ·rename_i hlow
   refine zS loops (fun p hp hpi=>?_) h
   have hl:=k.loops p hp
   unfold FD.isLoop at hB
   unfold KC at hl
   rw [hpi,hlow] at hl
   simpa only [FD.loop,hB,Option.getD_some] using hl
 join:=fun {an b st st' o} hB h=>by
  simp only [ao] at h
  split at h
  ·rename_i hlow
   refine xR loops (fun p hp hpi=>?_) h
   have hl:=k.loops p hp
   unfold FD.isLoop at hB
   unfold KC at hl
   rw [hpi,hlow] at hl
   simpa only [FD.loop,hB,Option.getD_some] using hl
  ·cases h
theorem al.self (k:al P fd calls loops):∀ p,p∈bP fd.body->fd.isLoop p.1 p.2:=SN k.ids
theorem al.okU (k:al P fd calls loops) (us:List (Nat×Nat)):((ao calls loops).unroll byRef us).OK P fd.isLoop where
 nat:=⟨fun f args m K=>k.ok.nat.call f args m K,fun an b st K=>by
  simp only [CB.unroll]
  cases yk an.id us with
  | none=>exact k.ok.nat.loop an b st K
  | some n=>exact Ky k.ok.nat n st K,fun an b st K=>k.ok.nat.join an b st K⟩
 calls:=⟨fun {f args m v m'} h=>tc calls k.calls h⟩
 loop:=fun {an b st st' o} hB h=>by
  simp only [CB.unroll] at h
  split at h
  ·rename_i n hn
   obtain ⟨p,hp,hpi,hpb⟩:=E3 hB
   exact EZ k.ok k.mix (fun q hq=>k.self q (im hp (by rw [hpb]; exact hq))) n h
  ·exact k.ok.loop hB h
 join:=fun {an b st st' o} hB h=>k.ok.join hB h
theorem aaY {cb:CB} (hcb:cb.OK P fd.isLoop) (hmix:P.follows .mixedOrders=true) (hself:∀ p,p∈bP fd.body->fd.isLoop p.1 p.2) {an:Nat->cF} {f:FuncId} {fn:Func} (hf:aF P an f fn fd) (rc:RC) (c:bu)
  (heq:∀ a b,ai cb byRef rc fd (c.args.svs a) (c.mem.mem b) (fun v m=>some (v,m))=(c.F a b).map (cq c.outs)):aq P f c:=by
 intro a b r hr
 have h:=heq a b
 rw [hr] at h
 exact sZ hcb hmix hf hself h
theorem alO (k:al P fd calls loops) {an:Nat->cF} {f:FuncId} {fn:Func} (hf:aF P an f fn fd) (rc:RC) (c:bu)
  (heq:∀ a b,ai (ao calls loops) byRef rc fd (c.args.svs a) (c.mem.mem b) (fun v m=>some (v,m))=(c.F a b).map (cq c.outs)):aq P f c:=by
 intro a b r hr
 have h:=heq a b
 rw [hr] at h
 exact sZ k.ok k.mix hf k.self h
theorem aaZ (k:al P fd calls loops) {lan:cF} {id:Nat} (hid:(yk id (js (bP fd.body))).isSome=true) (tmps:aC) (mem:aS) (outs:List eh) (fP:tmps.T×mem.T->Option ((tmps.T×mem.T)⊕m8 outs))
    (heq:∀ p:tmps.T×mem.T,round (ao calls loops) byRef lan (fd.loop id) (fun s=>some (Sum.inl s)) ⟨tmps.svs p.1,mem.mem p.2⟩ (fun o s=>some (Sum.inr (o,s))) =
      (fP p).map (Sum.map (fun q=>(⟨tmps.svs q.1,mem.mem q.2⟩:St)) (lH outs))) :
    bK P (fd.loop id) ⟨tmps,mem,outs,fun x y=>dP fP (x,y)⟩:=by
  intro x y r hr
  obtain ⟨n,hn⟩:=w9 hr
  obtain ⟨b,hb⟩:=Option.isSome_iff_exists.1 hid
  have hbl:fd.loop id=b:=by simp [FD.loop,hb]
  obtain ⟨p,hp,_,hpb⟩:=E3 hb
  have hin:∀ q,q∈bP (fd.loop id)->fd.isLoop q.1 q.2:=by
    intro q hq
    rw [hbl,← hpb] at hq
    exact k.self q (im hp hq)
  refine EZ k.ok k.mix (lan:=lan) (byRef:=byRef) hin n ?_
  have key:∀ (n:Nat) (p:tmps.T×mem.T),Cu fP n p = some r->rounds (ao calls loops) byRef lan (fd.loop id) n ⟨tmps.svs p.1,mem.mem p.2⟩ (fun o s=>some (o,s)) = some (lH outs r):=by
    intro n
    induction n with
    | zero=>intro p h; cases h
    | succ n ih =>
      intro p h
      simp only [Cu] at h
      obtain ⟨z,hz,h⟩:=Option.bind_eq_some_iff.1 h
      have he:=heq p
      rw [hz] at he
      have hnat : rounds (ao calls loops) byRef lan (fd.loop id) (n + 1) ⟨tmps.svs p.1, mem.mem p.2⟩ (fun o s => some (o, s)) =
          (round (ao calls loops) byRef lan (fd.loop id) (fun s=>some (Sum.inl s)) ⟨tmps.svs p.1,mem.mem p.2⟩ (fun o s=>some (Sum.inr (o,s)))).bind fun z =>
            match z with
            | .inl s=>rounds (ao calls loops) byRef lan (fd.loop id) n s (fun o s=>some (o,s))
            | .inr q=>some q:=by
        simp only [rounds,round]
        rw [dt k.ok.nat]
        conv=>rhs; rw [dt k.ok.nat]
        rw [Option.bind_assoc]
        congr 1
        funext q
        obtain ⟨o,s⟩:=q
        cases o with
        | norm =>
          dsimp only
          cases lR lan s<;>rfl
        | exit id=>rfl
        | ret=>rfl
      rw [hnat,he]
      cases z with
      | inl q=>exact ih q h
      | inr q=>cases h; rfl
  exact key n (x,y) hn
end
def aJ (P:Program) (an:Nat->cF) (fn:Func):FD:=(wX P an fn).getD ⟨0,0,[],[],.stuck⟩
theorem aGZ {P:Program} {an:Nat→cF} {f:FuncId} {fn:Func} (h1:P.funcs[f]? = some fn) (h2:(wX P an fn).isSome = true) (h3:(fn.name == "runtime.NumGoroutine") = false):aF P an f fn (aJ P an fn):=by
 refine ⟨h1,?_,h3⟩
 obtain ⟨x,hx⟩:=Option.isSome_iff_exists.1 h2
 simp [aJ,hx]
theorem af {α β:Type} (b:Bool) (x y:Option α) (f:α->Option β):(cond b x y).bind f=cond b (x.bind f) (y.bind f):=by cases b<;>rfl
theorem ab {α β:Type} (f:α->Option β):(none:Option α).bind f=none:=rfl
theorem ac {α β:Type} (x:α) (f:α->Option β):(some x).bind f=f x:=rfl
theorem ae {α β γ:Type} (x:Option α) (f:α->Option β) (g:β->Option γ):(x.bind f).bind g=x.bind fun a=>(f a).bind g:=by cases x<;>rfl
theorem ah {α β γ δ:Type} (x:α⊕β) (f:α->Option γ) (g:β->Option γ) (h:γ->Option δ):(Sum.elim f g x).bind h=Sum.elim (fun a=>(f a).bind h) (fun b=>(g b).bind h) x:=by cases x<;>rfl
section
variable {P:Program} {fd:FD} {calls:List (Nat×bu)} {loops:List (Nat×cc)} {byRef:FuncId->CC}
theorem aG0 (k:al P fd calls loops) {an:Nat->cF} {f:FuncId} {fn:Func} (hf:aF P an f fn fd) (rc:RC) (args:aC) (mem:aS) (outs:List aA) (tree:{α:Type}->args.T->mem.T->(lQ outs->Option α)->Option α)
  (h1:∀ (a:args.T) (b:mem.T),ai (ao calls loops) byRef rc fd (args.svs a) (mem.mem b) (fun v m=>some (v,m))=tree a b fun r=>aj outs r fun v m=>some (v,m))
  (h2:∀ {α:Type} (a:args.T) (b:mem.T) (K:lQ outs->Option α),tree a b K=(tree a b some).bind K):aq P f ⟨args,mem,outs,fun a b=>tree a b some⟩:=by
 refine alO (byRef:=byRef) k hf rc _ fun a b=>?_
 show _=(tree a b some).map (cq outs)
 rw [h1,h2]
 cases tree a b some with
 | none=>rfl
 | some r=>simp only [Option.bind_some,Option.map_some,ik]
theorem aGa (k:al P fd calls loops) (us:List (Nat×Nat)) {an:Nat->cF} {f:FuncId} {fn:Func} (hf:aF P an f fn fd) (rc:RC) (args:aC) (mem:aS) (outs:List aA) (tree:{α:Type}->args.T->mem.T->(lQ outs->Option α)->Option α)
  (h1:∀ (a:args.T) (b:mem.T),ai ((ao calls loops).unroll byRef us) byRef rc fd (args.svs a) (mem.mem b) (fun v m=>some (v,m))=tree a b fun r=>aj outs r fun v m=>some (v,m))
  (h2:∀ {α:Type} (a:args.T) (b:mem.T) (K:lQ outs->Option α),tree a b K=(tree a b some).bind K):aq P f ⟨args,mem,outs,fun a b=>tree a b some⟩:=by
 refine aaY (byRef:=byRef) (k.okU (byRef:=byRef) us) k.mix k.self hf rc _ fun a b=>?_
 show _=(tree a b some).map (cq outs)
 rw [h1,h2]
 cases tree a b some with
 | none=>rfl
 | some r=>simp only [Option.bind_some,Option.map_some,ik]
theorem aGb (k:al P fd calls loops) {lan:cF} {id:Nat} (hid:(yk id (js (bP fd.body))).isSome=true) (tmps:aC) (mem:aS) (outs:List eh)
  (tree:{α:Type}->tmps.T->mem.T->(tmps.T->mem.T->Option α)->(m8 outs->Option α)->Option α)
  (h1:∀ (a:tmps.T) (b:mem.T),round (α:=St⊕(iW×St)) (ao calls loops) byRef lan (fd.loop id) (fun s=>some (Sum.inl s)) ⟨tmps.svs a,mem.mem b⟩ (fun o s=>some (Sum.inr (o,s))) =
   tree a b (fun a' b'=>some (.inl ⟨tmps.svs a',mem.mem b'⟩)) fun r=>aR outs r fun o s=>some (Sum.inr (o,s)))
  (h2:∀ {α:Type} (a:tmps.T) (b:mem.T) (kn:tmps.T->mem.T->Option α) (kr:m8 outs->Option α),tree a b kn kr=(tree a b (fun a' b'=>some (.inl (a',b'))) fun r=>some (.inr r)).bind (Sum.elim (fun p:tmps.T×mem.T=>kn p.1 p.2) kr)) :
  bK P (fd.loop id) ⟨tmps,mem,outs,fun x y=>dP (fun p=>tree p.1 p.2 (fun a' b'=>some (.inl (a',b'))) fun r=>some (.inr r)) (x,y)⟩:=by
 refine aaZ (byRef:=byRef) k (lan:=lan) hid tmps mem outs _ fun p=>?_
 rw [h1,h2]
 cases tree p.1 p.2 (fun a' b'=>some (Sum.inl (a',b'))) (fun r=>some (Sum.inr r)) with
 | none=>rfl
 | some z =>
  cases z with
  | inl q=>rfl
  | inr r=>simp only [Option.bind_some,Sum.elim_inr,Option.map_some,fk,Sum.map_inr]
end
theorem aGc {P:Program} {fd:FD} {calls:List (Nat×bu)} {loops:List (Nat×cc)} {byRef:FuncId->CC} (k:al P fd calls loops) {lan:cF} {id:Nat} (hid:(yk id (js (bP fd.body))).isSome = true) (tmps:aC) (mem:aS) (outs:List eh)
  (tree:{α:Type}->tmps.T->mem.T->(m8 outs->Option α)->Option α)
  (h1:∀ (a:tmps.T) (b:mem.T),piece (ao calls loops) byRef lan (fd.loop id) ⟨tmps.svs a,mem.mem b⟩ (fun o s=>some (o,s))=tree a b fun r=>aR outs r fun o s=>some (o,s))
  (h2:∀ {α:Type} (a:tmps.T) (b:mem.T) (K:m8 outs->Option α),tree a b K=(tree a b some).bind K) :
  Fy P (fd.loop id) ⟨tmps,mem,outs,fun x y=>tree x y some⟩:=by
 intro x y r hr
 obtain ⟨b,hb⟩:=Option.isSome_iff_exists.1 hid
 have hbl:fd.loop id=b:=by simp [FD.loop,hb]
 obtain ⟨p,hp,_,hpb⟩:=E3 hb
 have hin:∀ q,q∈bP (fd.loop id)->fd.isLoop q.1 q.2:=by
  intro q hq
  rw [hbl,← hpb] at hq
  exact k.self q (im hp hq)
 refine Hq k.ok k.mix (lan:=lan) (byRef:=byRef) hin ?_
 have hr:tree x y some=some r:=hr
 show piece _ _ _ _ ⟨tmps.svs x,mem.mem y⟩ _=_
 rw [h1,h2,hr,Option.bind_some,fk]
theorem aX {A B R:Type} (t:{α:Type}->A->B->(A->B->Option α)->(R->Option α)->Option α)
  (h2:∀ {α:Type} (a:A) (b:B) (kn:A->B->Option α) (kr:R->Option α),t a b kn kr=(t a b (fun a' b'=>some (Sum.inl (a',b'))) fun r=>some (Sum.inr r)).bind (Sum.elim (fun p:A×B=>kn p.1 p.2) kr)) (x:A) (y:B) :
  dP (fun p:A×B=>t p.1 p.2 (fun a' b'=>some (Sum.inl (a',b'))) fun r=>some (Sum.inr r)) (x,y) =
   t x y (fun a b=>dP (fun p:A×B=>t p.1 p.2 (fun a' b'=>some (Sum.inl (a',b'))) fun r=>some (Sum.inr r)) (a,b)) some:=by
 rw [ao9]
 conv=>rhs; rw [h2]
 show Option.bind (t x y _ _) _=_
 congr 1
 funext z
 cases z<;>rfl
def cj {β:Type} (Q:β->Prop) (o:Option β):Prop:=∀ r,o=some r->Q r
theorem bn {β:Type} {Q:β->Prop}:cj Q none:=fun r h=>by cases h
theorem bp {β:Type} {Q:β->Prop} {r:β} (h:Q r):cj Q (some r):=fun r' h'=>by cases h'; exact h
theorem bm {β:Type} {Q:β->Prop} {b:Bool} {x y:Option β} (hx:cj Q x) (hy:cj Q y):cj Q (cond b x y):=by cases b; exact hy; exact hx
theorem bk {β γ:Type} {Q:β->Prop} {o:Option γ} {f:γ->Option β} (h:∀ a,cj Q (f a)):cj Q (o.bind f):=fun r hr=>by
 obtain ⟨a,_,ha⟩:=Option.bind_eq_some_iff.1 hr
 exact h a r ha
theorem xd {β γ:Type} {Q:β->Prop} {Q':γ->Prop} {o:Option γ} {f:γ->Option β} (ho:cj Q' o) (h:∀ a,Q' a->cj Q (f a)):cj Q (o.bind f):=fun r hr=>by
 obtain ⟨a,h1,ha⟩:=Option.bind_eq_some_iff.1 hr
 exact h a (ho a h1) r ha
theorem bD {β γ δ:Type} {Q:β->Prop} {x:γ⊕δ} {f:γ->Option β} {g:δ->Option β} (hf:∀ a,cj Q (f a)) (hg:∀ a,cj Q (g a)):cj Q (Sum.elim f g x):=by
 cases x with
 | inl a=>exact hf a
 | inr a=>exact hg a
theorem Ab {S R:Type} {fP:S->Option (S⊕R)} (Inv:S->Prop) {Q:R->Prop} (h:∀ s,Inv s->cj (Sum.elim Inv Q) (fP s)) {s:S} (hs:Inv s):cj Q (dP fP s):=by
 intro r hr
 obtain ⟨n,hn⟩:=w9 hr
 clear hr
 induction n generalizing s with
 | zero=>cases hn
 | succ n ih =>
  simp only [Cu] at hn
  obtain ⟨z,hz,hn⟩:=Option.bind_eq_some_iff.1 hn
  have:=h s hs z hz
  cases z with
  | inl s'=>exact ih this hn
  | inr r'=>cases hn; exact this
def xT:List ak->aC
 | []=>.nil
 | p::l=>.cons (.leaf p) (xT l)
def alP (P:Program) (t:TypeId):Option Sk :=
 match jr P 8 t,mX P t with
 | some ps,some true=>some (.agg (xT ps))
 | some [p],some false=>some (.leaf p)
 | _,_=>none
def Jg (P:Program):List TypeId->Option aC
 | []=>some .nil
 | t::l=>match alP P t,Jg P l with
  | some s,some r=>some (.cons s r)
  | _,_=>none
def dz:Nat->aC->aC
 | 0,l=>l
 | n+1,l=>.cons (.const .dead) (dz n l)
abbrev Y4 : Type := List ((Int × Int × ByteArray × ByteArray) × Int)
abbrev Y5 : Type := List ((Int × Int × Int × ByteArray) × Int)
abbrev Y3 : Type := List ((Int × ByteArray) × Int)
abbrev Y2 : Type := List (ByteArray × Int)
abbrev Y1 : Type := List (Int × Int)
abbrev Y6 : Type := List (Int × ByteArray)
abbrev Yd : Type := List Int × Int × Bool × Unit
abbrev Yl : Type := List (List ByteArray)
abbrev Yb : Type := List ByteArray
abbrev Yt : Type := Int × Int × Int × Int × Int × ByteArray × Unit
abbrev qa : jW := .map (.cons (.int .u64) .nil) false (.int .i64)
abbrev qb : jW := .map (.cons .str .nil) false (.int .u64)
abbrev qc : jW := .map (.cons (.int .u64) (.cons .str .nil)) true (.int .u64)
abbrev qd : jW := .map (.cons (.int .u64) (.cons (.int .u64) (.cons .str (.cons .str .nil)))) true (.int .u64)
abbrev qe : jW := .map (.cons (.int .u64) (.cons (.int .u64) (.cons (.int .u64) (.cons .str .nil)))) true (.int .i64)
abbrev qf : jW := .row 9 (.cons .str .nil)
abbrev qg : jW := .row 196 (.cons (.int .i64) (.cons .str .nil))
abbrev lI : Sk := .leaf (.int .i64)
abbrev lU : Sk := .leaf (.int .u64)
abbrev lS : Sk := .leaf .str
abbrev lB : Sk := .leaf .bool
abbrev lL : Sk := .leaf (.slc 41 (.cons (.int .u64) .nil))
abbrev cP (n : Nat) : Sk := .const (.ptr n 0 0)
abbrev cM (n : Nat) : Sk := .const (.mp n)
abbrev cW (n : Nat) : Sk := .const (.slw n)

section
variable {P : Program} {fd : FD} {calls : List (Nat × bu)} {loops : List (Nat × cc)} {byRef : FuncId -> CC}
theorem ay (k : al P fd calls loops) {an : Nat -> cF} {f : FuncId} {fn : Func} (hf : aF P an f fn fd) (rc : RC) (args : aC) (mem : aS) (outs : List aA) {F : args.T -> mem.T -> Option (lQ outs)}
  (h : ∀ (a : args.T) (b : mem.T), ai (ao calls loops) byRef rc fd (args.svs a) (mem.mem b) (fun v m => some (v, m))=(F a b).bind fun r => aj outs r fun v m => some (v, m)) : aq P f ⟨args, mem, outs, F⟩ := by
 refine alO (byRef := byRef) k hf rc _ fun a b => ?_
 show _=(F a b).map (cq outs)
 rw [h]
 cases F a b with
 | none => rfl
 | some r => simp only [Option.bind_some, Option.map_some, ik]
theorem OH (k : al P fd calls loops) (us : List (Nat × Nat)) {an : Nat -> cF} {f : FuncId} {fn : Func} (hf : aF P an f fn fd) (rc : RC) (args : aC) (mem : aS) (outs : List aA) {F : args.T -> mem.T -> Option (lQ outs)}
  (h : ∀ (a : args.T) (b : mem.T), ai ((ao calls loops).unroll byRef us) byRef rc fd (args.svs a) (mem.mem b) (fun v m => some (v, m))=(F a b).bind fun r => aj outs r fun v m => some (v, m)) : aq P f ⟨args, mem, outs, F⟩ := by
 refine aaY (byRef := byRef) (k.okU (byRef := byRef) us) k.mix k.self hf rc _ fun a b => ?_
 show _=(F a b).map (cq outs)
 rw [h]
 cases F a b with
 | none => rfl
 | some r => simp only [Option.bind_some, Option.map_some, ik]
theorem ce (k : al P fd calls loops) {lan : cF} {id : Nat} (tmps : aC) (mem : aS) (outs : List eh) {fP : tmps.T × mem.T -> Option ((tmps.T × mem.T)⊕m8 outs)}
  (h : ∀ (a : tmps.T) (b : mem.T), round (α := St⊕(iW × St)) (ao calls loops) byRef lan (fd.loop id) (fun s => some (Sum.inl s)) ⟨tmps.svs a, mem.mem b⟩ (fun o s => some (Sum.inr (o, s))) =
   (fP (a, b)).bind (Sum.elim (fun p : tmps.T × mem.T => some (.inl ⟨tmps.svs p.1, mem.mem p.2⟩)) fun r => aR outs r fun o s => some (Sum.inr (o, s)))) (hid : (yk id (js (bP fd.body))).isSome=true := by kernel_rfl) :
  bK P (fd.loop id) ⟨tmps, mem, outs, fun x y => dP fP (x, y)⟩ := by
 refine aaZ (byRef := byRef) k (lan := lan) hid tmps mem outs _ fun p => ?_
 rw [h]
 cases fP (p.1, p.2) with
 | none => rfl
 | some z =>
  cases z with
  | inl q => rfl
  | inr r => simp only [Option.bind_some, Sum.elim_inr, Option.map_some, fk, Sum.map_inr]
theorem avC (k : al P fd calls loops) {lan : cF} {id : Nat} (tmps : aC) (mem : aS) (outs : List eh) {F : tmps.T -> mem.T -> Option (m8 outs)}
  (h : ∀ (a : tmps.T) (b : mem.T), piece (ao calls loops) byRef lan (fd.loop id) ⟨tmps.svs a, mem.mem b⟩ (fun o s => some (o, s))=(F a b).bind fun r => aR outs r fun o s => some (o, s)) (hid : (yk id (js (bP fd.body))).isSome=true := by kernel_rfl) :
  Fy P (fd.loop id) ⟨tmps, mem, outs, F⟩ := by
 intro x y r hr
 obtain ⟨b, hb⟩ := Option.isSome_iff_exists.1 hid
 have hbl : fd.loop id=b := by simp [FD.loop, hb]
 obtain ⟨p, hp, _, hpb⟩ := E3 hb
 have hin : ∀ q, q ∈ bP (fd.loop id) -> fd.isLoop q.1 q.2 := by
  intro q hq
  rw [hbl, ← hpb] at hq
  exact k.self q (im hp hq)
 refine Hq k.ok k.mix (lan := lan) (byRef := byRef) hin ?_
 have hr : F x y=some r := hr
 show piece _ _ _ _ ⟨tmps.svs x, mem.mem y⟩ _=_
 rw [h, hr, Option.bind_some, fk]
end
def bR (a : List Nat) (c : List (Nat × List (Nat × Nat × TypeId × aw))) : FuncId -> CC := fun f => ⟨a.contains f, (if a.contains f then [0,1,2,3,4,5,6,7,8,9,10,11] else []), (yk f c).getD []⟩
def bS (a : List Nat) (b : List (Nat × List Nat)) (c : List (Nat × List (Nat × Nat × TypeId × aw))) : FuncId -> CC := fun f => ⟨a.contains f, (yk f b).getD [], (yk f c).getD []⟩
def aN (l : List (Nat × cF)) : Nat -> cF := fun n => (yk n l).getD ⟨0, [], [], [], []⟩
def sL : List Sk -> aC
 | [] => .nil
 | a::l => .cons a (sL l)
def rL : List ak -> aw
 | [] => .nil
 | a::l => .cons a (rL l)
theorem cf {P : Program} {an : Nat → cF} {f : FuncId} {fn : Func} (h1 : P.funcs[f]? = some fn := by kernel_rfl) (h2 : (wX P an fn).isSome = true := by kernel_rfl) (h3 : (fn.name == "runtime.NumGoroutine") = false := by kernel_rfl) : aF P an f fn (aJ P an fn) := aGZ h1 h2 h3
abbrev eB : ByteArray := ByteArray.empty
abbrev z9 : Int × Int × Int × Int × Int × ByteArray × ByteArray × List Int × List Int := (0,0,0,0,0,eB,eB,[],[])
abbrev pn : aw := .cons (.int .u64) .nil
abbrev KE : aw := rL [(.int .i64),(.int .u64),(.int .u64),.str,.str,(.int .u64)]
abbrev BX : aS := [(0,.cells (sL [(.leaf (.slc 38 pn)),lI,lB,(cM 1),(cM 2),(cM 3),(cM 4),(cM 5),(cM 6),(cW 7)])),(1,qa),(2,qa),(3,qb),(4,qc),(5,qd),(6,qe),(7,qf)]
abbrev qq3 : aS := [(0,.cells (sL [(cP 1),(cP 2),lU,lU,lI])),(1,.cells (sL [(.leaf (.slc 38 pn)),lI,lB,(cM 3),(cM 4),(cM 5),(cM 6),(cM 7),(cM 8),(cW 9)])),(2,.cells (.cons (cP 10) .nil)),(3,qa),(4,qa),(5,qb),(6,qc),(7,qd),(8,qe),(9,qf),(10,.cells (sL [lI,(cW 11),(cW 12)])),(11,qf),(12,.row 151 (rL [(.int .i64),.str]))]
abbrev KF : aw := rL [(.int .i64),(.int .i64),.str,(.slc 3 (.cons (.int .i64) .nil))]
abbrev Ed : List (Nat × Nat × TypeId × aw) := [(0,1,153,.cons (.int .i64) (rL [(.int .u64),(.int .u64),.str,.str,(.int .u64)])),(0,2,38,.cons (.int .u64) .nil)]
abbrev BZ : aS := [(0,.cells (sL [(cW 1),(cW 2),(cW 3),lI])),(1,.row 38 pn),(2,.row 153 KE),(3,.row 38 pn)]
abbrev qq7 : aw := rL [(.int .i64),.str,(.slc 3 (.cons (.int .i64) .nil))]
abbrev qq8 : aS := [(0,.cells (sL [(cP 1),(cP 2),lU,lU,lI])),(1,.cells (sL [(cW 3),(cW 4),(cW 5),lI])),(2,.cells (sL [lI,(cW 6),(cW 7)])),(3,.row 38 pn),(4,.row 153 KE),(5,.row 38 pn),(6,qf),(7,.row 117 KF)]
abbrev qq9 : aw := rL [(.int .u64),(.int .u64),.str,.str,(.int .u64)]
abbrev yg : aS := [(0,.cells (sL [lI,(cW 1),(cW 2)])),(1,qf),(2,.row 151 (rL [(.int .i64),.str]))]
abbrev ip : Sk := .leaf (.slc 38 pn)
abbrev sD : List (Nat × Nat × TypeId × aw) := [(0,2,151,.cons (.int .i64) (.cons .str .nil))]
abbrev KH : aS := [(0,.cells (sL [(cW 1),(cW 4),(cW 3),lI])),(1,.row 38 pn),(2,.gone),(3,.row 38 pn),(4,.row 153 KE)]
abbrev nk : aw := rL [(.int .i64),.str]
abbrev BK : aS := [(0,.cells (sL [lI,(cW 1),(cW 2)])),(1,qf),(2,.row 117 KF)]
abbrev amm : aS := [(0,.cells (sL [(cP 1),(cP 2),lU,lU,lI])),(1,.cells (sL [ip,lI,lB,(cM 3),(cM 4),(cM 5),(cM 6),(cM 7),(cM 8),(cW 9)])),(2,.cells (.cons (cP 10) .nil)),(3,qa),(4,qa),(5,qb),(6,qc),(7,qd),(8,qe),(9,qf),(10,.cells (sL [lI,(cW 11),(cW 13)])),(11,qf),(12,.gone),(13,.row 151 nk)]
abbrev FK : List (Nat × Nat × TypeId × aw) := [(1,1,153,.cons (.int .i64) qq9),(1,2,38,.cons (.int .u64) .nil)]
abbrev o8 : List (Nat × Nat × TypeId × aw) := [(0,2,117,.cons (.int .i64) qq7)]
abbrev lK : List (Nat × Nat × TypeId × aw) := [(0,9,9,.cons .str .nil)]
abbrev yy : Nat × jW := (0,.cells (sL [(cP 1),(cP 2),lU,lU,lI]))
abbrev Ue : List (Nat × Nat × TypeId × aw) := [(2,1,153,.cons (.int .i64) qq9),(2,2,38,.cons (.int .u64) .nil),(3,2,117,.cons (.int .i64) qq7)]
abbrev acY : Sk := .leaf (.slc 45 (rL [(.int .i64),(.int .i64),(.int .i64),(.int .u64),(.int .u64),.str,.str,(.slc 38 pn),(.slc 3 (.cons (.int .i64) .nil))]))
abbrev Fj : aw := .cons .str .nil
abbrev QK : aS := [(0,.cells (sL [lI,(cW 1),(cW 3)])),(1,qf),(2,.gone),(3,.row 117 KF)]
abbrev aa5 : aS := [(0,.cells (.cons (cP 1) .nil)),(1,.cells (sL [lI,(cW 2),(cW 3)])),(2,qf),(3,.row 151 nk)]
abbrev air : List (Nat × Nat × TypeId × aw) := [(3,1,153,.cons (.int .i64) qq9),(3,2,38,.cons (.int .u64) .nil),(4,2,117,.cons (.int .i64) qq7)]
abbrev Tx : List (Nat × Nat × TypeId × aw) := [(3,9,9,.cons .str .nil),(12,2,151,.cons (.int .i64) Fj)]
abbrev SW : Sk := .leaf (.slc 3 (.cons (.int .i64) .nil))
abbrev amJ : aS := [(0,.cells (.cons (cP 1) .nil)),(1,.cells (sL [lI,(cW 2),(cW 4)])),(2,qf),(3,.gone),(4,.row 151 nk)]
abbrev adm : Nat × jW := (0,.cells (sL [ip,lI,lB,(cM 1),(cM 2),(cM 3),(cM 4),(cM 5),(cM 6),(cW 7)]))
abbrev ac9 : aS := [(0,.cells (sL [lI,(cW 1),(cW 3)])),(1,qf),(2,.gone),(3,.row 151 nk)]
abbrev S4 : aw := .cons (.slc 38 pn) .nil
abbrev uy : Nat × jW := (3,.row 38 pn)
abbrev Nq : Nat × Nat × TypeId × aw := (2,2,151,.cons (.int .i64) Fj)
abbrev IW : aC := sL [lU,lU,lU,lU,lU,lS]
abbrev SZ : aC := sL [(cP 0),lU,(.agg (sL [lS,ip]))]
abbrev auw : aS := [(0,.cells (sL [(cW 1),(cW 2),(cW 4),lI])),(1,.row 38 pn),(2,.row 153 KE),(3,.gone),(4,.row 38 pn)]
abbrev atA : Nat × jW := (2089,.cells (sL [ip,lI,lB,(cM 2090),(cM 2091),(cM 2092),(cM 2093),(cM 2094),(cM 2095),(cW 710)]))
abbrev abk : Nat × jW := (1,.cells (sL [(cW 3),(cW 8),(cW 9),lI]))
abbrev anf : List (Nat × Nat × TypeId × aw) := [(2,1,153,.cons (.int .i64) qq9),(2,2,38,.cons (.int .u64) .nil)]
abbrev atO : aS := [(0,.cells (sL [lI,(cW 2),(cW 3)])),(1,.cells (.cons (cP 0) .nil)),(2,qf),(3,.row 151 nk)]
abbrev NJ : List (Nat × Nat × TypeId × aw) := [(1,9,9,.cons .str .nil)]
abbrev atQ : aS := [(0,.cells (sL [lI,(cW 2),(cW 3)])),(1,.cells (.cons SW .nil)),(2,qf),(3,.row 151 nk)]
abbrev amY : List (Nat × Nat × TypeId × aw) := [(2,9,9,.cons .str .nil),(11,2,151,.cons (.int .i64) Fj)]
abbrev abp : List (Nat × Nat × TypeId × aw) := [(1,2,151,.cons (.int .i64) Fj)]
abbrev atY : Nat × jW := (1,.cells (sL [ip,lI,lB,(cM 3),(cM 4),(cM 5),(cM 6),(cM 7),(cM 8),(cW 13)]))
abbrev I2 : aC := sL [lU,lU,lU,lU]
abbrev abK : List (Nat × Nat × TypeId × aw) := [(1,2,117,.cons (.int .i64) qq7)]
abbrev atT : Nat × jW := (0,.cells (sL [ip,lI,lB,(cM 2),(cM 3),(cM 4),(cM 5),(cM 6),(cM 7),(cW 8)]))
abbrev alZ : Nat × jW := (2281,.cells (sL [(cP 2089),(cP 2282),lU,lU,lI]))
abbrev al1 : Nat × jW := (3144,.cells (sL [(cP 2153),(cP 2921),lU,lU,lI]))
abbrev amk : aC := sL [(.const .nilp),(.const (.bool Bool.false))]
abbrev adF : Nat × jW := (2,.cells (sL [lI,(cW 6),(cW 7)]))
abbrev Hr : aC := sL [lS,ip]
abbrev amo : Nat × jW := (0,.cells (sL [(cW 1),(cW 600),(cW 3),lI]))
abbrev S7 : aw := .cons (.int .u8) .nil
abbrev adb : Nat × jW := (2,.cells (.cons (cP 10) .nil))
abbrev al0 : Nat × jW := (2282,.cells (.cons (cP 2283) .nil))
abbrev atB : Nat × jW := (2153,.cells (sL [(cW 2154),(cW 714),(cW 713),lI]))
abbrev Mv : Nat × jW := (1,.row 38 pn)
abbrev abd : Sk := .leaf (.slc 22 S4)
abbrev Qc : aC := sL [(cP 0),lU]
abbrev QQ : Nat × jW := (8,.row 153 KE)
abbrev aml : aC := sL [lI,(cW 501),(.const .nils)]
abbrev bO : Type := Int×Int×Int×ByteArray×ByteArray×Int
abbrev cy : Type := Int×Int×ByteArray×List Int
abbrev jw : Type := (Int×Unit)×List Int×(List bO)×List Int×Unit
abbrev cr : Type := Int×Int×Int×Unit
abbrev jv : Type := Yd×Y1×Y1×Y2×Y3×Y4×Y5×Yb×Unit
abbrev Hv : Type := (Int×Unit)×List Int×Unit×List Int×(List bO)×Unit
abbrev BL : Type := (Int×Unit)×Yb×(List cy)×Unit
abbrev P4 : Type := Int×Int×Int×Int×Int×ByteArray×ByteArray×List Int×List Int
abbrev Hs : Type := ByteArray×List Int×Unit
abbrev yh : Type := (Int×Unit)×Yb×Y6×Unit
abbrev atC : Type := Yb×Y6×List Int×(List bO)×(List cy)×Yd×Y1×Y1×Y2×Y3×Y4×Y5×(Int×Unit)×List Int×cr×Unit×(Int×Unit)×Yb×(Int×Unit)×Yb×cr×Unit
abbrev pZ : Type := List Int×Unit
abbrev ux : Type := ByteArray×Unit
abbrev QL : Type := (Int×Unit)×Yb×Unit×(List cy)×Unit
abbrev I3 : Type := Int×Int×Int×Int×Unit
abbrev Hu : Type := ByteArray×Int×Unit
abbrev P5 : Type := Int×ByteArray×Bool×Unit
abbrev Mf : Type := ByteArray×Bool×Unit
abbrev aa6 : Type := Unit×(Int×Unit)×Yb×Y6×Unit
abbrev Ht : Type := Int×Int×Unit
abbrev amn : Type := Int×Int×Int×ByteArray×ByteArray×Int×Unit
abbrev ada : Type := (Int×Unit)×Yb×Unit×Y6×Unit
abbrev auy : Type := (Int×Unit)×List Int×(List bO)×Unit×List Int×Unit
abbrev amK : Type := Unit×(Int×Unit)×Yb×Unit×Y6×Unit
abbrev Qe : Type := Int×Hs×Unit
abbrev adv : Type := Int×ByteArray×Int×Unit
abbrev adS : Type := Int×Int×ByteArray×Unit
end Go.Proofs.YtljfdfghagiblaaGreat.S2
