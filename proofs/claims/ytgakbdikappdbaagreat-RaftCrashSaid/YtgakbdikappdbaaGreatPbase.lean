/- Arithmetic of machine words, and bytes, in plain words. -/
import Derived.Test.YtgakbdikappdbaaGreatS2y
import Derived.WideShapes
import Derived.WalkKit
set_option linter.unusedVariables false
set_option linter.unusedSimpArgs false
namespace Go.Proofs.YtgakbdikappdbaaGreat.S2
open Go
theorem u64w (n : Int) : IntKind.u64.wrap n = n % 18446744073709551616 := by
  simp [IntKind.wrap, IntKind.bits, IntKind.signed]
theorem i64w (n : Int) : IntKind.i64.wrap n = if 9223372036854775808 ≤ n % 18446744073709551616 then n % 18446744073709551616 - 18446744073709551616 else n % 18446744073709551616 := by
  simp [IntKind.wrap, IntKind.bits, IntKind.signed]
theorem u64id {n : Int} (h0 : 0 ≤ n) (h1 : n < 18446744073709551616) : IntKind.u64.wrap n = n := by rw [u64w]; omega
theorem i64id {n : Int} (h0 : -9223372036854775808 ≤ n) (h1 : n < 9223372036854775808) : IntKind.i64.wrap n = n := by rw [i64w]; split <;> omega
theorem c_t {α : Type} {b : Bool} {x y : α} (h : b = true) : cond b x y = x := by rw [h]; rfl
theorem c_f {α : Type} {b : Bool} {x y : α} (h : b = false) : cond b x y = y := by rw [h]; rfl
theorem cd_t {α : Type} {p : Prop} [Decidable p] {x y : α} (h : p) : cond (decide p) x y = x := c_t (decide_eq_true h)
theorem cd_f {α : Type} {p : Prop} [Decidable p] {x y : α} (h : ¬ p) : cond (decide p) x y = y := c_f (decide_eq_false h)
def U (x : Int) : Prop := 0 ≤ x ∧ x < 18446744073709551616
theorem u8w (n : Int) : IntKind.u8.wrap n = n % 256 := by simp [IntKind.wrap, IntKind.bits, IntKind.signed]
def bs (s : ByteArray) : List UInt8 := s.data.toList
theorem bs_inj {a b : ByteArray} (h : bs a = bs b) : a = b := by
  cases a; cases b; simp only [bs] at h; rw [Array.toList_inj.1 h]
theorem bs_nums (l : List Int) : bs (Go.strOfNums l) = l.map fun n => UInt8.ofNat n.toNat := by
  simp [bs, Go.strOfNums]
theorem bindS {α β : Type} {x : Option α} {a : α} {f : α → Option β} {r : Option β} (h : x = some a) (k : f a = r) : x.bind f = r := by rw [h]; exact k
end Go.Proofs.YtgakbdikappdbaaGreat.S2
