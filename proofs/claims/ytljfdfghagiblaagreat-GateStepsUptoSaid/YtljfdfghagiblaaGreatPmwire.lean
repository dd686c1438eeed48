/- Arithmetic of machine words,and numbers as bytes,in plain words. -/
import Derived.Test.YtljfdfghagiblaaGreatGwire
import Derived.Test.YtljfdfghagiblaaGreatGrwire
import Derived.WideShapes
import Derived.WalkKit
namespace Go.Proofs.YtljfdfghagiblaaGreat.S2.Mk
open Go Go.Proofs.YtljfdfghagiblaaGreat.S2
theorem RD (n:Int):IntKind.u64.wrap n=n % 18446744073709551616:=by
 simp [IntKind.wrap,IntKind.bits,IntKind.signed]
theorem aot (n:Int):IntKind.i64.wrap n=if 9223372036854775808<=n % 18446744073709551616 then n % 18446744073709551616-18446744073709551616 else n % 18446744073709551616:=by
 simp [IntKind.wrap,IntKind.bits,IntKind.signed]
theorem ff {n:Int} (h0:0<=n) (h1:n<18446744073709551616):IntKind.u64.wrap n=n:=by rw [RD]; omega
theorem aQ {n:Int} (h0 : -9223372036854775808<=n) (h1:n<9223372036854775808):IntKind.i64.wrap n=n:=by rw [aot]; split<;>omega
theorem eC {α:Type} {b:Bool} {x y:α} (h:b=true):cond b x y=x:=by rw [h]; rfl
theorem eu {α:Type} {b:Bool} {x y:α} (h:b=false):cond b x y=y:=by rw [h]; rfl
theorem ap {α:Type} {p:Prop} [Decidable p] {x y:α} (h:p):cond (decide p) x y=x:=eC (decide_eq_true h)
theorem bq {α:Type} {p:Prop} [Decidable p] {x y:α} (h:¬ p):cond (decide p) x y=y:=eu (decide_eq_false h)
theorem aW {α:Type} (p:Prop) [Decidable p] (x y:α):cond (decide p) x y=if p then x else y:=by by_cases h:p<;>simp [h]
theorem cN {α:Type} (a b:Int) (x y:α):cond (a==b) x y=if a=b then x else y:=by
 by_cases h:a=b
 ·simp [h]
 ·rw [beq_false_of_ne h,if_neg h]; rfl
theorem En {α:Type} (a b:Int) (x y:α):cond (a != b) x y=if a=b then y else x:=by
 by_cases h:a=b
 ·simp [h]
 ·rw [bne_iff_ne.2 h,if_neg h]; rfl
theorem ci (a b:ByteArray):(a.toList==b.toList)=decide (a=b):=by
 rw [ByteArray.toList_eq,ByteArray.toList_eq,Bool.eq_iff_iff,beq_iff_eq,decide_eq_true_eq]
 exact ⟨fun h=>WideShapes.bytes_inj h,fun h=>by rw [h]⟩
def U (x:Int):Prop:=0<=x/\x<18446744073709551616
theorem P2 (n:Int):IntKind.u8.wrap n=n % 256:=by simp [IntKind.wrap,IntKind.bits,IntKind.signed]
def bs (s:ByteArray):List UInt8:=s.data.toList
theorem cB (s:ByteArray):(bs s).length=s.size:=Array.length_toList
theorem gA (a b:ByteArray):bs (a++b)=bs a++bs b:=by simp [bs,ByteArray.data_append]
theorem dF {a b:ByteArray} (h:bs a=bs b):a=b:=by
 cases a; cases b; simp only [bs] at h; rw [Array.toList_inj.1 h]
theorem ug (l:List UInt8):bs ⟨l.toArray⟩=l:=rfl
theorem pb (l:List Int):bs (Go.strOfNums l)=l.map fun n=>UInt8.ofNat n.toNat:=by
 simp [bs,Go.strOfNums]
def bJ (n:Nat):List UInt8:=if n<128 then [UInt8.ofNat n] else UInt8.ofNat (n % 128+128)::bJ (n / 128)
termination_by n
decreasing_by omega
theorem ba {n:Nat} (h:n<128):bJ n=[UInt8.ofNat n]:=by rw [bJ,if_pos h]
theorem d7 {n:Nat} (h:¬ n<128):bJ n=UInt8.ofNat (n % 128+128)::bJ (n / 128):=by rw [bJ,if_neg h]
def fy (l:List Int):List UInt8:=l.map fun n=>UInt8.ofNat n.toNat
theorem akP:∀ b:Fin 256,(BitVec.ofNat 8 b.val ||| BitVec.ofNat 8 128).toNat=b.val % 128+128:=by decide +kernel
theorem akQ:∀ b:Fin 256,(BitVec.ofNat 8 b.val &&& BitVec.ofNat 8 127).toNat=b.val % 128:=by decide +kernel
theorem Gk {n:Int} (h:0<=n):IntKind.u8.wrap (((BitVec.ofInt 8 (IntKind.u8.wrap n) ||| BitVec.ofInt 8 128).toNat:Nat):Int)=n % 128+128:=by
 have e:IntKind.u8.wrap n=((n.toNat % 256:Nat):Int):=by rw [P2]; omega
 have e2:(128:Int)=((128:Nat):Int):=rfl
 rw [e,show BitVec.ofInt 8 (128:Int)=BitVec.ofNat 8 128 from rfl,BitVec.ofInt_natCast]
 have:=akP ⟨n.toNat % 256,Nat.mod_lt _ (by decide)⟩
 dsimp only at this
 rw [this,P2]
 omega
theorem zn:∀ (k:Nat) (n:Int) (l:List Int),0<=n->n<((128 ^ (k+1):Nat):Int)->l.length+k<=1000 ->
  ∃ (m:Int) (l':List Int),dY (n,()) (l,())=some ((m,()),(l',()))/\0<=m/\m<128/\l'.length<=l.length+k/\fy (l'++[m])=fy l++bJ n.toNat
 | 0,n,l,h0,h1,hl=>by
  refine ⟨n,l,?_,h0,by simpa using h1,by omega,?_⟩
  ·rw [pI]
   unfold bZ
   rw [bq (by simp at h1; omega)]
  ·rw [ba (by simp at h1; omega)]
   simp [fy]
 | k+1,n,l,h0,h1,hl=>by
  by_cases hn:n≥128
  ·have h2 : n / 128 < ((128 ^ (k + 1) : Nat) : Int) := by
    rw [Nat.pow_succ] at h1
    omega
   obtain ⟨m,l',e,g0,g1,g2,g3⟩:=zn k (n / 128) (l++[n % 128+128]) (by omega) h2 (by simp; omega)
   refine ⟨m,l',?_,g0,g1,by simp at g2; omega,?_⟩
   ·rw [pI]
    unfold bZ
    rw [ap hn,ap (by simp; omega),Gk h0,List.nil_append,Int.fdiv_eq_ediv_of_nonneg _ (by decide)]
    exact e
   ·rw [g3,d7 (n:=n.toNat) (by omega)]
    simp only [fy,List.map_append,List.map_cons,List.map_nil,List.append_assoc,List.singleton_append]
    rw [show (n % 128+128).toNat=n.toNat % 128+128 by omega,show (n / 128).toNat=n.toNat / 128 by omega]
  ·refine ⟨n,l,?_,h0,by omega,by omega,?_⟩
   ·rw [pI]
    unfold bZ
    rw [bq (by omega)]
   ·rw [ba (by omega)]
    simp [fy]
def oD (n:Int):ByteArray:=⟨(bJ n.toNat).toArray⟩
theorem sE (n:Int):bs (oD n)=bJ n.toNat:=rfl
theorem dQ {n:Int} (h0:0<=n) (h1:n<18446744073709551616):be (n,()) ()=some (oD n,()):=by
 rw [XE]
 unfold jQ
 rw [XD]
 unfold jP
 obtain ⟨m,l',e,g0,g1,g2,g3⟩:=zn 9 n [] h0 (by have:((128 ^ (9+1):Nat):Int)=1180591620717411303424:=(by decide); omega) (by simp)
 rw [e]
 simp only [Option.bind_some]
 rw [ap (by simp at g2; omega)]
 simp only [Option.bind_some,Option.some.injEq,Prod.mk.injEq,and_true]
 apply dF
 rw [pb,sE,List.nil_append,P2,show m % 256=m by omega]
 exact g3
theorem zo:∀ (k n:Nat),n<128 ^ (k+1)->(bJ n).length<=k+1
 | 0,n,h=>by rw [ba (by simpa using h)]; simp
 | k+1,n,h=>by
  by_cases hn:n<128
  ·rw [ba hn]; simp
  ·rw [d7 hn]
   have:=zo k (n / 128) (by rw [Nat.pow_succ] at h; omega)
   simp; omega
theorem xC {n:Nat} (h:n<18446744073709551616):(bJ n).length<=10:=zo 9 n (by have:(128:Nat) ^ (9+1)=1180591620717411303424:=(by decide); omega)
theorem aM {n:Int} (h0:0<=n) (h1:n<18446744073709551616):(oD n).size<=10:=xC (n:=n.toNat) (by omega)
theorem wS:∀ (k:Nat) (n:Int) (l:List Int),0<=n->n<((128 ^ (k+1):Nat):Int)->n<18446744073709551616->l.length+k<=1000 ->
  ∃ (m:Int) (l':List Int),ga (n,()) (l,())=some ((m,()),(l',()))/\0<=m/\m<128/\l'.length<=l.length+k/\fy (l'++[m])=fy l++bJ n.toNat
 | 0,n,l,h0,h1,h64,hl=>by
  refine ⟨n,l,?_,h0,by simpa using h1,by omega,?_⟩
  ·rw [wz]
   unfold cm
   rw [bq (by simp at h1; omega)]
  ·rw [ba (by simp at h1; omega)]
   simp [fy]
 | k+1,n,l,h0,h1,h64,hl=>by
  by_cases hn:n>127
  ·have h2 : n / 128 < ((128 ^ (k + 1) : Nat) : Int) := by
    rw [Nat.pow_succ] at h1
    omega
   obtain ⟨m,l',e,g0,g1,g2,g3⟩:=wS k (n / 128) (l++[n % 128+128]) (by omega) h2 (by omega) (by simp; omega)
   refine ⟨m,l',?_,g0,g1,by simp at g2; omega,?_⟩
   ·rw [wz]
    unfold cm
    rw [ap hn,ap (by omega),List.nil_append,Int.tdiv_eq_ediv_of_nonneg h0,Int.tmod_eq_emod_of_nonneg h0,ff (n:=n / 128) (by omega) (by omega),ff (n:=n % 128+128) (by omega) (by omega),P2,show (n % 128+128) % 256=n % 128+128 by omega]
    exact e
   ·rw [g3,d7 (n:=n.toNat) (by omega)]
    simp only [fy,List.map_append,List.map_cons,List.map_nil,List.append_assoc,List.singleton_append]
    rw [show (n % 128+128).toNat=n.toNat % 128+128 by omega,show (n / 128).toNat=n.toNat / 128 by omega]
  ·refine ⟨n,l,?_,h0,by omega,by omega,?_⟩
   ·rw [wz]
    unfold cm
    rw [bq (by omega)]
   ·rw [ba (by omega)]
    simp [fy]
theorem dd {n:Int} (h0:0<=n) (h1:n<18446744073709551616):bj (n,()) ()=some (oD n,()):=by
 rw [adW]
 unfold n9
 obtain ⟨m,l',e,g0,g1,g2,g3⟩:=wS 9 n [] h0 (by have:((128 ^ (9+1):Nat):Int)=1180591620717411303424:=(by decide); omega) h1 (by simp)
 rw [e]
 simp only [Option.bind_some]
 rw [ap (by simp at g2; omega)]
 simp only [Option.bind_some,Option.some.injEq,Prod.mk.injEq,and_true]
 apply dF
 rw [pb,sE,List.nil_append,P2,show m % 256=m by omega]
 exact g3
theorem RQ:∀ (k n n':Nat) (l l':List UInt8),n<128 ^ (k+1)->n'<128 ^ (k+1)->bJ n++l=bJ n'++l'->n=n'/\l=l'
 | 0,n,n',l,l',h,h',he=>by
  rw [ba (by simpa using h),ba (by simpa using h')] at he
  simp only [List.cons_append,List.nil_append,List.cons.injEq] at he
  refine ⟨?_,he.2⟩
  have:=congrArg UInt8.toNat he.1
  rw [UInt8.toNat_ofNat',UInt8.toNat_ofNat'] at this
  simp at h h'
  omega
 | k+1,n,n',l,l',h,h',he=>by
  have key:∀ a b:Nat,a<128->UInt8.ofNat a≠UInt8.ofNat (b % 128+128):=fun a b ha hq=>by
   have:=congrArg UInt8.toNat hq
   rw [UInt8.toNat_ofNat',UInt8.toNat_ofNat'] at this
   omega
  by_cases hn:n<128<;>by_cases hn':n'<128
  ·rw [ba hn,ba hn'] at he
   simp only [List.cons_append,List.nil_append,List.cons.injEq] at he
   refine ⟨?_,he.2⟩
   have:=congrArg UInt8.toNat he.1
   rw [UInt8.toNat_ofNat',UInt8.toNat_ofNat'] at this
   omega
  ·rw [ba hn,d7 hn'] at he
   simp only [List.cons_append,List.nil_append,List.cons.injEq] at he
   exact (key _ _ hn he.1).elim
  ·rw [d7 hn,ba hn'] at he
   simp only [List.cons_append,List.nil_append,List.cons.injEq] at he
   exact (key _ _ hn' he.1.symm).elim
  ·rw [d7 hn,d7 hn'] at he
   simp only [List.cons_append,List.cons.injEq] at he
   have h1:=RQ k (n / 128) (n' / 128) l l' (by rw [Nat.pow_succ] at h; omega) (by rw [Nat.pow_succ] at h'; omega) he.2
   refine ⟨?_,h1.2⟩
   have:=congrArg UInt8.toNat he.1
   rw [UInt8.toNat_ofNat',UInt8.toNat_ofNat'] at this
   omega
theorem Js {n n':Nat} {l l':List UInt8} (h:n<18446744073709551616) (h':n'<18446744073709551616) (he:bJ n++l=bJ n'++l'):n=n'/\l=l' :=
 RQ 9 n n' l l' (by have:(128:Nat) ^ (9+1)=1180591620717411303424:=(by decide); omega) (by have:(128:Nat) ^ (9+1)=1180591620717411303424:=(by decide); omega) he
end Go.Proofs.YtljfdfghagiblaaGreat.S2.Mk
