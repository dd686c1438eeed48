/- What the bounds of lists say of their lengths. -/
import Derived.Test.YtjhaidbfahobmaaS2za
namespace Go.Proofs.Ytjhaidbfahobmaa.S2
open Go
theorem few8 {n : Nat} (h : n * 8 ≤ 140737488351232) : n ≤ 17592186044416 := by omega
theorem few24 {n : Nat} (h : n * 24 ≤ 140737488351232) : n ≤ 140737488355328 := by omega
theorem few32 {n : Nat} (h : n * 32 ≤ 140737488351232) : n ≤ 140737488355328 := by omega
end Go.Proofs.Ytjhaidbfahobmaa.S2
