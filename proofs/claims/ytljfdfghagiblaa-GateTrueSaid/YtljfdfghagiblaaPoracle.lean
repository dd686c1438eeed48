/- The oracle of the program and that of the document,in plain words: maps,draws,hashes. -/
import Derived.Test.YtljfdfghagiblaaPmwire
import Derived.Test.YtljfdfghagiblaaGideal
import Derived.Test.YtljfdfghagiblaaGr03
set_option linter.unusedVariables false
set_option linter.unusedSimpArgs false
namespace Go.Proofs.Ytljfdfghagiblaa.S2.Mk
open Go Go.Proofs.Ytljfdfghagiblaa.S2
section
variable {κ ν:Type} [DecidableEq κ] {eq:κ→κ→Bool} (hl:∀ a b,eq a b = true↔a = b)
include hl
theorem mfind_mput (k k':κ) (v:ν):∀ es:List (κ×ν),mfind eq k (mput eq k' v es) = if k = k' then some v else mfind eq k es
  | []=>by
    simp only [mput,mfind]
    by_cases h:k = k'
    · rw [if_pos h,(hl _ _).2 h]
    · rw [if_neg h]
      cases h2:eq k k' with
      | true=>exact (h ((hl _ _).1 h2)).elim
      | false=>rfl
  | e :: es=>by
    have ih:=mfind_mput k k' v es
    simp only [mput]
    cases h2:eq k' e.1 with
    | true =>
      have hk:=(hl _ _).1 h2
      simp only [mfind]
      by_cases h:k = k'
      · rw [if_pos h,(hl _ _).2 (h.trans hk)]
      · rw [if_neg h]
        cases h3:eq k e.1 with
        | true=>exact (h (((hl _ _).1 h3).trans hk.symm)).elim
        | false=>rfl
    | false =>
      simp only [mfind]
      cases h3:eq k e.1 with
      | true =>
        by_cases h:k = k'
        · subst h
          rw [h3] at h2
          cases h2
        · rw [if_neg h]
      | false=>exact ih
theorem mget_mput (z:ν) (k k':κ) (v:ν) (es:List (κ×ν)):mget eq z k (mput eq k' v es) = if k = k' then v else mget eq z k es:=by
  unfold mget
  rw [mfind_mput hl]
  split <;> rfl
end
abbrev eqI:Int→Int→Bool:=(Row.cons (Prim.int IntKind.u64) Row.nil).eqb
abbrev eqS:ByteArray→ByteArray→Bool:=(Row.cons Prim.str Row.nil).eqb
theorem eqI_l:∀ a b:Int,eqI a b = true↔a = b:=fun a b=>by
  show (a == b) = true↔_
  exact beq_iff_eq
theorem eqS_l:∀ a b:ByteArray,eqS a b = true↔a = b:=fun a b=>by
  show (a.toList == b.toList) = true↔_
  rw [bytes_beq]
  exact decide_eq_true_iff
abbrev TagK:=Int×ByteArray
abbrev SealK:=Int×Int×ByteArray×ByteArray
abbrev ToldK:=Int×Int×Int×ByteArray
structure Or where
  draws:List Int
  drawn:Int
  bad:Bool
  issued:List (Int×Int)
  met:List (Int×Int)
  hashes:List (ByteArray×Int)
  tags:List (TagK×Int)
  seals:List (SealK×Int)
  opens:List (ToldK×Int)
  plains:List ByteArray
abbrev MI:=M_k30
def Or.m (o:Or):MI:=((o.draws,o.drawn,o.bad,()),o.issued,o.met,o.hashes,o.tags,o.seals,o.opens,o.plains,())
def nextD (draws:List Int) (k:Int):Int:=if k < draws.length then draws.getD k.toNat 0 else IntKind.u64.wrap (9223372036854775808 + IntKind.u64.wrap k)
def Or.clash (o:Or) (h:Int):Bool:=h == 0 || (decide (mget eqI 0 h o.issued > 0) || decide (mget eqI 0 h o.met > 0))
def Or.fresh (o:Or):Int×Or:=(nextD o.draws o.drawn,{ o with drawn:=IntKind.i64.wrap (o.drawn + 1),bad:=o.bad || o.clash (nextD o.draws o.drawn),issued:=mput eqI (nextD o.draws o.drawn) (IntKind.i64.wrap (mget eqI 0 (nextD o.draws o.drawn) o.issued + 1)) o.issued })
def Or.hash (o:Or) (t:ByteArray):Int×Or:=match mfind eqS t o.hashes with
  | some h=>(h,o)
  | none=>(o.fresh.1,{ o.fresh.2 with hashes:=mput eqS t o.fresh.1 o.fresh.2.hashes })
def Or.meet (o:Or) (h:Int):Or:=if mget eqI 0 h o.issued = 0 then { o with met:=mput eqI h 1 o.met } else o
theorem e_Fresh (o:Or) (h:0≤o.drawn):F_k30 () o.m = some (o.fresh.1,o.fresh.2.m):=by
  obtain ⟨draws,drawn,bad,issued,met,hashes,tags,seals,opens,plains⟩:=o
  simp only [Or.m,Or.fresh,Or.clash] at *
  rw [Fe_k30]
  unfold tree_k30 nextD
  have fin:∀ (n:Int) (K:Bool→Option O_k30),
      cond (n == 0) (K true) (cond (decide (mget eqI 0 n issued > 0)) (K true) (cond (decide (mget eqI 0 n met > 0)) (K true) (K bad))) = K (bad || (n == 0 || (decide (mget eqI 0 n issued > 0) || decide (mget eqI 0 n met > 0)))):=by
    intro n K
    cases n == 0 <;> cases decide (mget eqI 0 n issued > 0) <;> cases decide (mget eqI 0 n met > 0) <;> cases bad <;> rfl
  by_cases hd:drawn < (draws.length:Int)
  · rw [cd_t hd,cd_t h,cd_t hd,if_pos hd]
    exact fin (draws.getD drawn.toNat 0) (fun b=>some (draws.getD drawn.toNat 0,(draws,IntKind.i64.wrap (drawn + 1),b,()),mput eqI (draws.getD drawn.toNat 0) (IntKind.i64.wrap (mget eqI 0 (draws.getD drawn.toNat 0) issued + 1)) issued,met,hashes,tags,seals,opens,plains,()))
  · rw [cd_f hd,if_neg hd]
    exact fin (IntKind.u64.wrap (9223372036854775808 + IntKind.u64.wrap drawn)) (fun b=>some (IntKind.u64.wrap (9223372036854775808 + IntKind.u64.wrap drawn),(draws,IntKind.i64.wrap (drawn + 1),b,()),mput eqI (IntKind.u64.wrap (9223372036854775808 + IntKind.u64.wrap drawn)) (IntKind.i64.wrap (mget eqI 0 (IntKind.u64.wrap (9223372036854775808 + IntKind.u64.wrap drawn)) issued + 1)) issued,met,hashes,tags,seals,opens,plains,()))
theorem e_Hash (o:Or) (t:ByteArray) (h:0≤o.drawn):F_k31 (t,()) o.m = some ((o.hash t).1,(o.hash t).2.m):=by
  have hf:=e_Fresh o h
  obtain ⟨draws,drawn,bad,issued,met,hashes,tags,seals,opens,plains⟩:=o
  simp only [Or.m,Or.hash] at *
  rw [Fe_k31]
  unfold tree_k31
  cases hm:mfind eqS t hashes with
  | some v =>
    have e1:(!mhas eqS t hashes) = false:=by unfold mhas; rw [hm]; rfl
    have e2:mget eqS 0 t hashes = v:=by unfold mget; rw [hm]; rfl
    refine (c_f e1).trans ?_
    show some (mget eqS 0 t hashes,_) = _
    rw [e2]
  | none =>
    have e1:(!mhas eqS t hashes) = true:=by unfold mhas; rw [hm]; rfl
    refine (c_t e1).trans ?_
    rw [hf]
    rfl
theorem e_Meet (o:Or) (h:Int):F_k32 (h,()) o.m = some ((),(o.meet h).m):=by
  obtain ⟨draws,drawn,bad,issued,met,hashes,tags,seals,opens,plains⟩:=o
  simp only [Or.m,Or.meet] at *
  rw [Fe_k32]
  unfold tree_k32
  by_cases hq:mget eqI 0 h issued = 0
  · rw [if_pos hq]
    exact c_t (beq_iff_eq.2 hq)
  · rw [if_neg hq]
    exact c_f (beq_false_of_ne hq)
theorem e_Bad (o:Or):F_k29 () o.m = some (o.bad,()):=rfl
def Or.new (draws:List Int):Or:=⟨draws,0,false,[],[],[],[],[],[],[]⟩
theorem e_New {draws:List Int} (h:draws.length≤17592186044416):F_k28 (draws,()) () = some ((),(Or.new draws).m):=by
  rw [Fe_k28]
  unfold tree_k28 F_k51
  rw [cd_t (by show draws.length * 8≤_; omega)]
  rfl
abbrev RW:=Int×Int×Int×ByteArray×ByteArray×Int
structure Rf where
  draws:List Int
  rows:List RW
  met:List Int
  bads:Int
def Rf.m (p:Rf):M_ref03_Oracle_draw:=((p.bads,()),p.draws,p.rows,p.met,())
def Rf.clash (p:Rf) (h:Int):Bool:=h == 0 || (p.rows.any (fun y=>y.2.2.2.2.2 == h) || p.met.any (fun y=>y == h))
def Rf.draw (p:Rf) (t k n:Int) (a b:ByteArray):Int×Rf:=(nextD p.draws p.rows.length,{ p with rows:=p.rows ++ [(t,k,n,a,b,nextD p.draws p.rows.length)],bads:=if p.clash (nextD p.draws p.rows.length) then IntKind.i64.wrap (p.bads + 1) else p.bads })
def rmatch (t k n:Int) (a b:ByteArray) (y:RW):Bool:=t != 0 && (y.1 == t && (y.2.1 == k && (y.2.2.1 == n && (y.2.2.2.1.toList == a.toList && y.2.2.2.2.1.toList == b.toList))))
def Rf.value (p:Rf) (t k n:Int) (a b:ByteArray):Int×Rf:=match p.rows.find? (rmatch t k n a b) with
  | some y=>(y.2.2.2.2.2,p)
  | none=>p.draw t k n a b
theorem getD_pre {α:Type} (pre suf:List α) (x z:α):(pre ++ x :: suf).getD pre.length z = x:=by simp [List.getD]
def Rf.hash (p:Rf) (t:ByteArray):Int×Rf:=p.value 1 0 0 t ByteArray.empty
def Rf.new (draws:List Int):Rf:=⟨draws,[],[],0⟩
end Go.Proofs.Ytljfdfghagiblaa.S2.Mk
