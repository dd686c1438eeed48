/- If nothing bad happened,a leaf or a path that is turned anywhere is not taken for a sector: in plain words. -/
import Derived.Test.YtljfdfghagiblaaP23f
import Derived.Test.YtljfdfghagiblaaGlaw23
set_option linter.unusedVariables false
set_option linter.unusedSimpArgs false
namespace Go.Proofs.Ytljfdfghagiblaa.S2.Mk
open Go Go.Proofs.Ytljfdfghagiblaa.S2
theorem pow_wrapF {d:Nat} (h4:d≤4):IntKind.u64.wrap (d:Int) = (d:Int)∧IntKind.i64.wrap (1 * 2 ^ Min.min d 64) = ((2 ^ d:Nat):Int)∧IntKind.u64.wrap ((2 ^ d:Nat):Int) = ((2 ^ d:Nat):Int):=by
  obtain ⟨h1,h2⟩:=pow_small h4
  have hc:(2:Int) ^ d = ((2 ^ d:Nat):Int):=by simp
  refine ⟨u64id (by omega) (by omega),?_,u64id (by omega) (by omega)⟩
  rw [Nat.min_eq_left (by omega),Int.one_mul,hc,i64id (by omega) (by omega)]
abbrev repE (d:Nat):List ByteArray:=List.replicate (2 ^ d) ByteArray.empty
theorem Lvs_repE (d:Nat):Lvs d (repE d):=by
  refine ⟨List.length_replicate,fun s hs=>?_⟩
  rw [List.eq_of_mem_replicate hs]
  exact Nat.zero_le _
theorem Lvs.set {d:Nat} {l:List ByteArray} (h:Lvs d l) (i:Nat) {s:ByteArray} (hs:s.size≤140737488355328):Lvs d (l.set i s):=by
  refine ⟨by rw [List.length_set]; exact h.len,fun x hx=>?_⟩
  rcases List.mem_or_eq_of_mem_set hx with hx | rfl
  · exact h.sz x hx
  · exact hs
end Go.Proofs.Ytljfdfghagiblaa.S2.Mk
