/- A store's acts,its trust behind them. -/
import Derived.Test.YtljfdfghagiblaaPtwo
import Derived.Test.YtljfdfghagiblaaPstore
import Derived.Test.YtljfdfghagiblaaPslot
set_option linter.unusedVariables false
set_option linter.unusedSimpArgs false
namespace Go.Proofs.Ytljfdfghagiblaa.S2
open Go
structure StG (size:Int) (S:List ByteArray) (n:Int) (t:TrT):Prop where
  slot:SlotG size S n (textB t)
  pos:0 < n
  ok:TrOk t
  may:mayT t
theorem StG.trust {size:Int} {S:List ByteArray} {n:Int} {t:TrT} (h:StG size S n t):trustD S [] = (t,true):=by
  obtain ⟨s0,s1,rfl,htwo,hw⟩:=h.slot.two
  have hp:=h.pos
  unfold trustD
  rw [new2G,hw]
  dsimp only
  rw [if_neg (by omega),par_text h.ok,if_pos h.may]
theorem st_save {size:Int} {S:List ByteArray} {n:Int} {last:ByteArray} {u:TrT} (h:SlotG size S n last) (hn:n < 1000000) (ho:TrOk u) (hm:mayT u) :
    ∃ S',doD size S [] (some u) = (decide (((textB u).size:Int)≤size - 18),S',[])∧(((textB u).size:Int)≤size - 18→StG size S' (n + 1) u)∧(¬ ((textB u).size:Int)≤size - 18→S' = S):=by
  have h':=h
  have hn0:=h.n0
  obtain ⟨s0,s1,rfl,htwo,hw⟩:=h'.two
  have hw1:(newS 0 1 s0 s1).2.1 = n:=by rw [hw]
  obtain ⟨h1,h2⟩:=saved_flush (t:=textB u) htwo (by omega)
  unfold doD
  dsimp only
  rw [h1]
  by_cases ht:((textB u).size:Int)≤size - 18
  · rw [decide_eq_true ht,if_pos rfl,h2 ht]
    exact ⟨_,rfl,fun _=>⟨slotG_saved h (by omega) ht,by omega,ho,hm⟩,fun hh=>absurd ht hh⟩
  · rw [decide_eq_false ht,if_neg (by decide)]
    exact ⟨_,rfl,fun hh=>absurd hh ht,fun _=>rfl⟩
theorem may_reset (root:Int):mayT (resetT root):=.inr ⟨rfl,rfl,rfl,rfl⟩
theorem may_set {r:TrT×Bool} {b:Bool} {t:TrT} (h:setT r b = some t):mayT t:=by
  unfold setT at h
  split at h
  · cases b <;> (simp at h; subst h; exact .inr ⟨rfl,rfl,rfl,rfl⟩)
  · cases h
theorem slot_D {size:Int} {S:List ByteArray} {n:Int} {last:ByteArray} (h:SlotG size S n last):DInv size S []:=by
  obtain ⟨s0,s1,rfl,htwo,hw⟩:=h.two
  exact htwo.D
end Go.Proofs.Ytljfdfghagiblaa.S2
