/- Arithmetic of machine words,and numbers as bytes,in plain words. -/
import Derived.Test.YtljfdfghagiblaaGwire
import Derived.Test.YtljfdfghagiblaaS2y
import Derived.Lib.Repeat
import Derived.WideShapes
import Derived.WalkKit
set_option linter.unusedVariables false
set_option linter.unusedSimpArgs false
namespace Go.Proofs.Ytljfdfghagiblaa.S2.Mk
open Go Go.Proofs.Ytljfdfghagiblaa.S2
theorem u64w (n:Int):IntKind.u64.wrap n = n % 18446744073709551616:=by
  simp [IntKind.wrap,IntKind.bits,IntKind.signed]
theorem i64w (n:Int):IntKind.i64.wrap n = if 9223372036854775808≤n % 18446744073709551616 then n % 18446744073709551616 - 18446744073709551616 else n % 18446744073709551616:=by
  simp [IntKind.wrap,IntKind.bits,IntKind.signed]
theorem u64id {n:Int} (h0:0≤n) (h1:n < 18446744073709551616):IntKind.u64.wrap n = n:=by rw [u64w]; omega
theorem i64id {n:Int} (h0 : -9223372036854775808≤n) (h1:n < 9223372036854775808):IntKind.i64.wrap n = n:=by rw [i64w]; split <;> omega
theorem c_t {α:Type} {b:Bool} {x y:α} (h:b = true):cond b x y = x:=by rw [h]; rfl
theorem c_f {α:Type} {b:Bool} {x y:α} (h:b = false):cond b x y = y:=by rw [h]; rfl
theorem cd_t {α:Type} {p:Prop} [Decidable p] {x y:α} (h:p):cond (decide p) x y = x:=c_t (decide_eq_true h)
theorem cd_f {α:Type} {p:Prop} [Decidable p] {x y:α} (h:¬ p):cond (decide p) x y = y:=c_f (decide_eq_false h)
theorem cond_decide {α:Type} (p:Prop) [Decidable p] (x y:α):cond (decide p) x y = if p then x else y:=by by_cases h:p <;> simp [h]
theorem cond_eqi {α:Type} (a b:Int) (x y:α):cond (a == b) x y = if a = b then x else y:=by
  by_cases h:a = b
  · simp [h]
  · rw [beq_false_of_ne h,if_neg h]; rfl
theorem cond_nei {α:Type} (a b:Int) (x y:α):cond (a != b) x y = if a = b then y else x:=by
  by_cases h:a = b
  · simp [h]
  · rw [bne_iff_ne.2 h,if_neg h]; rfl
theorem bytes_beq (a b:ByteArray):(a.toList == b.toList) = decide (a = b):=by
  rw [ByteArray.toList_eq,ByteArray.toList_eq,Bool.eq_iff_iff,beq_iff_eq,decide_eq_true_eq]
  exact ⟨fun h=>WideShapes.bytes_inj h,fun h=>by rw [h]⟩
def U (x:Int):Prop:=0≤x∧x < 18446744073709551616
theorem u8w (n:Int):IntKind.u8.wrap n = n % 256:=by simp [IntKind.wrap,IntKind.bits,IntKind.signed]
def bs (s:ByteArray):List UInt8:=s.data.toList
theorem bs_len (s:ByteArray):(bs s).length = s.size:=Array.length_toList
theorem bs_append (a b:ByteArray):bs (a ++ b) = bs a ++ bs b:=by simp [bs,ByteArray.data_append]
theorem bs_inj {a b:ByteArray} (h:bs a = bs b):a = b:=by
  cases a; cases b; simp only [bs] at h; rw [Array.toList_inj.1 h]
theorem bs_mk (l:List UInt8):bs ⟨l.toArray⟩ = l:=rfl
theorem bs_nums (l:List Int):bs (Go.strOfNums l) = l.map fun n=>UInt8.ofNat n.toNat:=by
  simp [bs,Go.strOfNums]
def putL (n:Nat):List UInt8:=if n < 128 then [UInt8.ofNat n] else UInt8.ofNat (n % 128 + 128) :: putL (n / 128)
termination_by n
decreasing_by omega
theorem putL_small {n:Nat} (h:n < 128):putL n = [UInt8.ofNat n]:=by rw [putL,if_pos h]
theorem putL_big {n:Nat} (h:¬ n < 128):putL n = UInt8.ofNat (n % 128 + 128) :: putL (n / 128):=by rw [putL,if_neg h]
def bytesI (l:List Int):List UInt8:=l.map fun n=>UInt8.ofNat n.toNat
theorem or128:∀ b:Fin 256,(BitVec.ofNat 8 b.val ||| BitVec.ofNat 8 128).toNat = b.val % 128 + 128:=by decide +kernel
theorem and127:∀ b:Fin 256,(BitVec.ofNat 8 b.val &&& BitVec.ofNat 8 127).toNat = b.val % 128:=by decide +kernel
theorem or128_int {n:Int} (h:0≤n):IntKind.u8.wrap (((BitVec.ofInt 8 (IntKind.u8.wrap n) ||| BitVec.ofInt 8 128).toNat:Nat):Int) = n % 128 + 128:=by
  have e:IntKind.u8.wrap n = ((n.toNat % 256:Nat):Int):=by rw [u8w]; omega
  have e2:(128:Int) = ((128:Nat):Int):=rfl
  rw [e,show BitVec.ofInt 8 (128:Int) = BitVec.ofNat 8 128 from rfl,BitVec.ofInt_natCast]
  have:=or128 ⟨n.toNat % 256,Nat.mod_lt _ (by decide)⟩
  dsimp only at this
  rw [this,u8w]
  omega
theorem put_loop:∀ (k:Nat) (n:Int) (l:List Int),0≤n→n < ((128 ^ (k + 1):Nat):Int)→l.length + k≤1000 →
    ∃ (m:Int) (l':List Int),L_k81_1 (n,()) (l,()) = some ((m,()),(l',()))∧0≤m∧m < 128∧l'.length≤l.length + k∧bytesI (l' ++ [m]) = bytesI l ++ putL n.toNat
  | 0,n,l,h0,h1,hl=>by
    refine ⟨n,l,?_,h0,by simpa using h1,by omega,?_⟩
    · rw [Le_k81_1]
      unfold ltree_k81_1
      rw [cd_f (by simp at h1; omega)]
    · rw [putL_small (by simp at h1; omega)]
      simp [bytesI]
  | k + 1,n,l,h0,h1,hl=>by
    by_cases hn:n≥128
    · have h2 : n / 128 < ((128 ^ (k + 1) : Nat) : Int) := by
        rw [Nat.pow_succ] at h1
        omega
      obtain ⟨m,l',e,g0,g1,g2,g3⟩:=put_loop k (n / 128) (l ++ [n % 128 + 128]) (by omega) h2 (by simp; omega)
      refine ⟨m,l',?_,g0,g1,by simp at g2; omega,?_⟩
      · rw [Le_k81_1]
        unfold ltree_k81_1
        rw [cd_t hn,cd_t (by simp; omega),or128_int h0,List.nil_append,Int.fdiv_eq_ediv_of_nonneg _ (by decide)]
        exact e
      · rw [g3,putL_big (n:=n.toNat) (by omega)]
        simp only [bytesI,List.map_append,List.map_cons,List.map_nil,List.append_assoc,List.singleton_append]
        rw [show (n % 128 + 128).toNat = n.toNat % 128 + 128 by omega,show (n / 128).toNat = n.toNat / 128 by omega]
    · refine ⟨n,l,?_,h0,by omega,by omega,?_⟩
      · rw [Le_k81_1]
        unfold ltree_k81_1
        rw [cd_f (by omega)]
      · rw [putL_small (by omega)]
        simp [bytesI]
def putB (n:Int):ByteArray:=⟨(putL n.toNat).toArray⟩
theorem bs_put (n:Int):bs (putB n) = putL n.toNat:=rfl
theorem e_PutUint {n:Int} (h0:0≤n) (h1:n < 18446744073709551616):F_k78 (n,()) () = some (putB n,()):=by
  rw [Fe_k78]
  unfold tree_k78
  rw [Fe_k81]
  unfold tree_k81
  obtain ⟨m, l', e, g0, g1, g2, g3⟩ := put_loop 9 n [] h0 (by have : ((128 ^ (9 + 1) : Nat) : Int) = 1180591620717411303424 := by decide
                                                              omega) (by simp)
  rw [e]
  simp only [Option.bind_some]
  rw [cd_t (by simp at g2; omega)]
  simp only [Option.bind_some,Option.some.injEq,Prod.mk.injEq,and_true]
  apply bs_inj
  rw [bs_nums,bs_put,List.nil_append,u8w,show m % 256 = m by omega]
  exact g3
theorem putL_len:∀ (k n:Nat),n < 128 ^ (k + 1)→(putL n).length≤k + 1
  | 0,n,h=>by rw [putL_small (by simpa using h)]; simp
  | k + 1,n,h=>by
    by_cases hn:n < 128
    · rw [putL_small hn]; simp
    · rw [putL_big hn]
      have:=putL_len k (n / 128) (by rw [Nat.pow_succ] at h; omega)
      simp; omega
theorem putL_len10 {n : Nat} (h : n < 18446744073709551616) : (putL n).length ≤ 10 := putL_len 9 n (by have : (128 : Nat) ^ (9 + 1) = 1180591620717411303424 := by decide
                                                                                                       omega)
theorem putB_size {n:Int} (h0:0≤n) (h1:n < 18446744073709551616):(putB n).size≤10:=putL_len10 (n:=n.toNat) (by omega)
theorem putL_pre:∀ (k n n':Nat) (l l':List UInt8),n < 128 ^ (k + 1)→n' < 128 ^ (k + 1)→putL n ++ l = putL n' ++ l'→n = n'∧l = l'
  | 0,n,n',l,l',h,h',he=>by
    rw [putL_small (by simpa using h),putL_small (by simpa using h')] at he
    simp only [List.cons_append,List.nil_append,List.cons.injEq] at he
    refine ⟨?_,he.2⟩
    have:=congrArg UInt8.toNat he.1
    rw [UInt8.toNat_ofNat',UInt8.toNat_ofNat'] at this
    simp at h h'
    omega
  | k + 1,n,n',l,l',h,h',he=>by
    have key:∀ a b:Nat,a < 128→UInt8.ofNat a≠UInt8.ofNat (b % 128 + 128):=fun a b ha hq=>by
      have:=congrArg UInt8.toNat hq
      rw [UInt8.toNat_ofNat',UInt8.toNat_ofNat'] at this
      omega
    by_cases hn:n < 128 <;> by_cases hn':n' < 128
    · rw [putL_small hn,putL_small hn'] at he
      simp only [List.cons_append,List.nil_append,List.cons.injEq] at he
      refine ⟨?_,he.2⟩
      have:=congrArg UInt8.toNat he.1
      rw [UInt8.toNat_ofNat',UInt8.toNat_ofNat'] at this
      omega
    · rw [putL_small hn,putL_big hn'] at he
      simp only [List.cons_append,List.nil_append,List.cons.injEq] at he
      exact (key _ _ hn he.1).elim
    · rw [putL_big hn,putL_small hn'] at he
      simp only [List.cons_append,List.nil_append,List.cons.injEq] at he
      exact (key _ _ hn' he.1.symm).elim
    · rw [putL_big hn,putL_big hn'] at he
      simp only [List.cons_append,List.cons.injEq] at he
      have h1:=putL_pre k (n / 128) (n' / 128) l l' (by rw [Nat.pow_succ] at h; omega) (by rw [Nat.pow_succ] at h'; omega) he.2
      refine ⟨?_,h1.2⟩
      have:=congrArg UInt8.toNat he.1
      rw [UInt8.toNat_ofNat',UInt8.toNat_ofNat'] at this
      omega
theorem putL_pre64 {n n':Nat} {l l':List UInt8} (h:n < 18446744073709551616) (h':n' < 18446744073709551616) (he:putL n ++ l = putL n' ++ l'):n = n'∧l = l' :=
  putL_pre 9 n n' l l' (by have : (128 : Nat) ^ (9 + 1) = 1180591620717411303424 := by decide
                           omega) (by have : (128 : Nat) ^ (9 + 1) = 1180591620717411303424 := by decide
                                      omega) he
end Go.Proofs.Ytljfdfghagiblaa.S2.Mk
