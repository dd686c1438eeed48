/- A disk,in plain words. -/
import Derived.Test.YtljfdfghagiblaaGdisk
import Derived.Lib.Repeat
import Derived.WideShapes
import Derived.WalkKit
import Derived.Test.YtljfdfghagiblaaGslot
set_option linter.unusedVariables false
set_option linter.unusedSimpArgs false
namespace Go.Proofs.Ytljfdfghagiblaa.S2
open Go
theorem u64w (n:Int):IntKind.u64.wrap n = n % 18446744073709551616:=by
  simp [IntKind.wrap,IntKind.bits,IntKind.signed]
theorem i64w (n:Int):IntKind.i64.wrap n = if 9223372036854775808≤n % 18446744073709551616 then n % 18446744073709551616 - 18446744073709551616 else n % 18446744073709551616:=by
  simp [IntKind.wrap,IntKind.bits,IntKind.signed]
theorem u64id {n:Int} (h0:0≤n) (h1:n < 18446744073709551616):IntKind.u64.wrap n = n:=by rw [u64w]; omega
theorem i64id {n:Int} (h0 : -9223372036854775808≤n) (h1:n < 9223372036854775808):IntKind.i64.wrap n = n:=by rw [i64w]; split <;> omega
theorem c_t {α:Type} {b:Bool} {x y:α} (h:b = true):cond b x y = x:=by rw [h]; rfl
theorem c_f {α:Type} {b:Bool} {x y:α} (h:b = false):cond b x y = y:=by rw [h]; rfl
theorem cd_t {α:Type} {p:Prop} [Decidable p] {x y:α} (h:p):cond (decide p) x y = x:=c_t (decide_eq_true h)
theorem cd_f {α:Type} {p:Prop} [Decidable p] {x y:α} (h:¬ p):cond (decide p) x y = y:=c_f (decide_eq_false h)
theorem cond_decide {α:Type} (p:Prop) [Decidable p] (x y:α):cond (decide p) x y = if p then x else y:=by by_cases h:p <;> simp [h]
theorem cond_eqi {α:Type} (a b:Int) (x y:α):cond (a == b) x y = if a = b then x else y:=by
  by_cases h:a = b
  · simp [h]
  · rw [beq_false_of_ne h,if_neg h]; rfl
theorem cond_nei {α:Type} (a b:Int) (x y:α):cond (a != b) x y = if a = b then y else x:=by
  by_cases h:a = b
  · simp [h]
  · rw [bne_iff_ne.2 h,if_neg h]; rfl
theorem bytes_beq (a b:ByteArray):(a.toList == b.toList) = decide (a = b):=by
  rw [ByteArray.toList_eq,ByteArray.toList_eq,Bool.eq_iff_iff,beq_iff_eq,decide_eq_true_eq]
  exact ⟨fun h=>WideShapes.bytes_inj h,fun h=>by rw [h]⟩
abbrev W2:=Int×ByteArray
def zerosB (n:Nat):ByteArray:=⟨(List.replicate n 0).toArray⟩
theorem zerosB_size (n:Nat):(zerosB n).size = n:=by simp [zerosB,ByteArray.size]
theorem e_Repeat0 {n:Int} (h:0≤n) (h1:n≤140737488355328):F_k76 ((ByteArray.mk #[0]),n,()) () = some (zerosB n.toNat,()):=by
  unfold F_k76
  have hs:(ByteArray.mk #[0]).size = 1:=rfl
  rw [cd_t ⟨h,(by dsimp only; omega),(by dsimp only; rw [hs]; omega)⟩]
  have:=Go.Lib.repeatL_replicate 0 1 n.toNat
  rw [Nat.mul_one] at this
  have e:Go.Lib.repeatL (ByteArray.mk #[0]).data.toList n.toNat = List.replicate n.toNat 0:=this
  dsimp only
  rw [e]
  rfl
structure DInv (size:Int) (safe:List ByteArray) (pend:List W2):Prop where
  lo:32≤size
  hi:size≤512
  n2:safe.length≤256
  sz:∀ s,s∈safe→(s.size:Int) = size
  pd:∀ p,p∈pend→0≤p.1∧p.1 < safe.length∧(p.2.size:Int) = size
  few:pend.length≤1000000
theorem getD_mem {α:Type} {l:List α} {i:Nat} {d:α} (h:i < l.length):l.getD i d∈l:=by
  rw [List.getD_eq_getElem?_getD,List.getElem?_eq_getElem h]
  exact List.getElem_mem h
theorem e_has {size at_:Int} {safe:List ByteArray} {pend:List W2}:F_k9 (at_,()) ((size,()),safe,pend,()) = some (decide (0≤at_∧at_ < safe.length),()):=by
  rw [Fe_k9]
  unfold tree_k9
  rw [cond_decide]
  by_cases h:at_≥0
  · rw [if_pos h]
    have:decide (at_ < (safe.length:Int)) = decide (0≤at_∧at_ < safe.length):=by rw [Bool.eq_iff_iff]; simp; omega
    rw [this]; rfl
  · rw [if_neg h,decide_eq_false (by omega)]; rfl
def safeS (safe:List ByteArray) (at_:Int):ByteArray×Bool:=if 0≤at_∧at_ < safe.length then (safe.getD at_.toNat ByteArray.empty,true) else (ByteArray.empty,false)
theorem e_Safe {size at_:Int} {safe:List ByteArray} {pend:List W2}:F_k5 (at_,()) ((size,()),safe,pend,()) = some (((safeS safe at_).1,(safeS safe at_).2,()),()):=by
  rw [Fe_k5]
  unfold tree_k5 safeS
  rw [e_has]
  simp only [Option.bind_some]
  by_cases h:0≤at_∧at_ < safe.length
  · rw [decide_eq_true h,if_pos h]
    simp only [Bool.not_true,cond_false]
    rw [cd_t h.1,cd_t h.2,Nat.zero_add]; rfl
  · rw [decide_eq_false h,if_neg h]; rfl
def lastW (pend:List W2) (at_:Int):Option ByteArray:=(pend.reverse.find? fun p=>p.1 == at_).map (·.2)
def readS (safe:List ByteArray) (pend:List W2) (at_:Int):ByteArray×Bool :=
  match lastW pend at_ with
  | some t=>(t,true)
  | none=>safeS safe at_
theorem lastW_snoc (pend:List W2) (p:W2) (at_:Int):lastW (pend ++ [p]) at_ = if p.1 = at_ then some p.2 else lastW pend at_:=by
  unfold lastW
  rw [List.reverse_append,List.reverse_singleton,List.singleton_append,List.find?_cons]
  by_cases h:p.1 = at_
  · simp [h]
  · simp [h,beq_false_of_ne h]
theorem Read_loop (size at_:Int) (safe:List ByteArray) (pend:List W2) (hl:pend.length≤1000000):∀ (k:Nat),k≤pend.length →
    L_k4_2 (at_,(k:Int) - 1,()) ((size,()),safe,pend,()) = match lastW (pend.take k) at_ with
      | some t=>some (.inl ((at_,t,true,()),((size,()),safe,pend,())))
      | none=>some (.inr ((at_,()),((size,()),safe,pend,())))
  | 0,h=>by
    rw [Le_k4_2]
    unfold ltree_k4_2
    rw [cd_f (by omega)]
    rfl
  | k + 1,h=>by
    rw [Le_k4_2]
    unfold ltree_k4_2
    have hk:k < pend.length:=by omega
    have e0:(((k + 1:Nat):Int) - 1) = k:=by omega
    rw [e0,cd_t (by omega),cd_t (by omega),cd_t (by omega),cond_eqi,cd_t (by omega),cd_t (by omega),i64id (by omega) (by omega),Read_loop size at_ safe pend hl k (by omega),Nat.zero_add,Int.toNat_natCast]
    have e1:pend.getD k (0,ByteArray.empty) = pend[k]:=by simp [List.getD,hk]
    have e2:pend.take (k + 1) = pend.take k ++ [pend[k]]:=by rw [List.take_succ_eq_append_getElem hk]
    rw [e1,e2,lastW_snoc]
    by_cases h1:pend[k].1 = at_
    · rw [if_pos h1,if_pos h1]
    · rw [if_neg h1,if_neg h1]
theorem e_Read {size at_:Int} {safe:List ByteArray} {pend:List W2} (hl:pend.length≤1000000):F_k4 (at_,()) ((size,()),safe,pend,()) = some (((readS safe pend at_).1,(readS safe pend at_).2,()),()):=by
  rw [Fe_k4]
  unfold tree_k4 readS
  rw [i64id (by omega) (by omega),Read_loop size at_ safe pend hl pend.length (Nat.le_refl _),List.take_length]
  cases lastW pend at_ with
  | some t=>rfl
  | none =>
    simp only [Option.bind_some,Sum.elim_inr]
    rw [e_Safe]
    rfl
theorem e_Sectors {size:Int} {safe:List ByteArray} {pend:List W2}:F_k6 () ((size,()),safe,pend,()) = some ((safe.length:Int),()):=by
  rw [Fe_k6]; rfl
theorem e_Size {size:Int} {safe:List ByteArray} {pend:List W2}:F_k7 () ((size,()),safe,pend,()) = some (size,()):=by
  rw [Fe_k7]; rfl
def mayW (size:Int) (safe:List ByteArray) (at_:Int) (t:ByteArray):Bool:=decide ((0≤at_∧at_ < safe.length)∧(t.size:Int)≤size)
def padW (size:Int) (t:ByteArray):ByteArray:=t ++ zerosB (size - t.size).toNat
theorem e_Write {size at_:Int} {safe:List ByteArray} {pend:List W2} {t:ByteArray} (hd:DInv size safe pend):F_k8 (at_,t,()) ((size,()),safe,pend,()) =
    some (mayW size safe at_ t,((size,()),safe,(),(if mayW size safe at_ t = true then pend ++ [(at_,padW size t)] else pend),())):=by
  rw [Fe_k8]
  unfold tree_k8 mayW
  rw [e_has]
  simp only [Option.bind_some]
  have h1:=hd.lo
  have h2:=hd.hi
  by_cases h:0≤at_∧at_ < safe.length
  · rw [decide_eq_true h]
    simp only [Bool.not_true,cond_false]
    rw [cond_decide]
    by_cases hs:(t.size:Int) > size
    · rw [if_pos hs,decide_eq_false (by omega)]; rfl
    · rw [if_neg hs,decide_eq_true (show (0≤at_∧at_ < (safe.length:Int))∧(t.size:Int)≤size from ⟨h,by omega⟩),i64id (by omega) (by omega),e_Repeat0 (by omega) (by omega)]
      simp only [Option.bind_some,if_true]
      rw [cd_t (by rw [zerosB_size]; omega),cd_t (by have:=hd.few; omega)]
      rfl
  · rw [decide_eq_false h,decide_eq_false (show ¬ ((0≤at_∧at_ < (safe.length:Int))∧(t.size:Int)≤size) from fun hh=>h hh.1)]; rfl
def layW (c:Nat) (safe:List ByteArray) (p:W2):List ByteArray :=
  safe.set p.1.toNat (p.2.extract 0 c ++ (safe.getD p.1.toNat ByteArray.empty).extract c (safe.getD p.1.toNat ByteArray.empty).size)
def keepS (c:Nat→Nat):Nat→List ByteArray→List W2→List ByteArray
  | _,safe,[]=>safe
  | k,safe,p :: l=>keepS c (k + 1) (layW (c k) safe p) l
theorem layW_len (c:Nat) (safe:List ByteArray) (p:W2):(layW c safe p).length = safe.length:=by simp [layW]
theorem keepS_len (c:Nat→Nat):∀ (l:List W2) (k:Nat) (safe:List ByteArray),(keepS c k safe l).length = safe.length
  | [],k,safe=>rfl
  | p :: l,k,safe=>by simp only [keepS]; rw [keepS_len c l,layW_len]
theorem layW_sz {size:Int} {c:Nat} {safe:List ByteArray} {p:W2} (hc:(c:Int)≤size) (hs:∀ s,s∈safe→(s.size:Int) = size) (hp:0≤p.1∧p.1 < safe.length∧(p.2.size:Int) = size):∀ s,s∈layW c safe p→(s.size:Int) = size:=by
  intro s h
  rcases List.mem_or_eq_of_mem_set h with h | h
  · exact hs s h
  · subst h
    have h1:=hs _ (getD_mem (l:=safe) (i:=p.1.toNat) (d:=ByteArray.empty) (by omega))
    rw [ByteArray.size_append,ByteArray.size_extract,ByteArray.size_extract]
    omega
def clampS (size x:Int):Int:=if size < (if 0 > x then 0 else x) then size else if 0 > x then 0 else x
theorem clampS_in {size x:Int} (h:0≤size):0≤clampS size x∧clampS size x≤size:=by
  unfold clampS
  by_cases h1:0 > x
  · simp only [if_pos h1]; split <;> omega
  · simp only [if_neg h1]; split <;> omega
theorem DInv.lay {size:Int} {safe:List ByteArray} {pend:List W2} (h:DInv size safe pend) {c:Nat} {p:W2} (hc:(c:Int)≤size) (hp:p∈pend):DInv size (layW c safe p) pend :=
  ⟨h.lo,h.hi,by rw [layW_len]; exact h.n2,layW_sz hc h.sz (h.pd p hp),fun q hq=>by rw [layW_len]; exact h.pd q hq,h.few⟩
theorem lay_step {α:Type} {size x:Int} {safe:List ByteArray} {pend:List W2} (h:DInv size safe pend) {k:Nat} (hk:k < pend.length) (K:List ByteArray→Option α) :
    (cond (decide (0≤if size < if 0 > x then 0 else x then size else if 0 > x then 0 else x))
     (cond (decide   ((if size < if 0 > x then 0 else x then size else if 0 > x then 0 else x)≤    (↑(pend.getD (0 + k) (0,ByteArray.empty)).snd.size:Int)))
      (cond (decide (0≤(pend.getD (0 + k) (0,ByteArray.empty)).fst))
       (cond (decide ((pend.getD (0 + k) (0,ByteArray.empty)).fst < (↑safe.length:Int)))
        (cond (decide (0≤if size < if 0 > x then 0 else x then size else if 0 > x then 0 else x))
         (cond (decide   ((if size < if 0 > x then 0 else x then size else if 0 > x then 0 else x)≤    (↑(safe.getD (0 + (pend.getD (0 + k) (0,ByteArray.empty)).fst.toNat) ByteArray.empty).size:Int)))
          (cond (decide   (((pend.getD (0 + k) (0, ByteArray.empty)).snd.extract 0 (if size < if 0 > x then 0 else x then size else if 0 > x then 0 else x).toNat).size +
             ((safe.getD (0 + (pend.getD (0 + k) (0,ByteArray.empty)).fst.toNat) ByteArray.empty).extract (if size < if 0 > x then 0 else x then size else if 0 > x then 0 else x).toNat (safe.getD (0 + (pend.getD (0 + k) (0,ByteArray.empty)).fst.toNat) ByteArray.empty).size).size≤9223372036854775807))
           (cond (decide (0≤(pend.getD (0 + k) (0,ByteArray.empty)).fst))
            (cond (decide ((pend.getD (0 + k) (0,ByteArray.empty)).fst < (↑safe.length:Int)))
             (K (safe.set (0 + (pend.getD (0 + k) (0,ByteArray.empty)).fst.toNat) ((pend.getD (0 + k) (0,ByteArray.empty)).snd.extract 0 (if size < if 0 > x then 0 else x then size else if 0 > x then 0 else x).toNat ++
               (safe.getD (0 + (pend.getD (0 + k) (0,ByteArray.empty)).fst.toNat) ByteArray.empty).extract (if size < if 0 > x then 0 else x then size else if 0 > x then 0 else x).toNat (safe.getD (0 + (pend.getD (0 + k) (0,ByteArray.empty)).fst.toNat) ByteArray.empty).size)))
             none) none) none) none) none) none) none) none) none) =
    K (layW (clampS size x).toNat safe pend[k]):=by
  have hp:=h.pd pend[k] (List.getElem_mem hk)
  have hlo:=h.lo
  have hhi:=h.hi
  have hc:=clampS_in (size:=size) (x:=x) (by omega)
  have e1:pend.getD (0 + k) (0,ByteArray.empty) = pend[k]:=by simp [List.getD,hk]
  have e2:(if size < if 0 > x then 0 else x then size else if 0 > x then 0 else x) = clampS size x:=rfl
  have hs:=h.sz _ (getD_mem (l:=safe) (i:=pend[k].1.toNat) (d:=ByteArray.empty) (by omega))
  rw [e1,e2,Nat.zero_add]
  rw [cd_t hc.1,cd_t (by omega),cd_t hp.1,cd_t hp.2.1,cd_t hc.1,cd_t (by omega),cd_t (by rw [ByteArray.size_extract,ByteArray.size_extract]; omega),cd_t hp.1,cd_t hp.2.1]
  rfl
theorem Flush_loop {size:Int} {pend:List W2}:∀ (d k:Nat) (safe:List ByteArray),DInv size safe pend→k + d = pend.length →
    L_k10_1 ((),(pend.length:Int),(k:Int),()) ((size,()),(),safe,pend,()) = some ((),((size,()),(),keepS (fun _=>(clampS size size).toNat) k safe (pend.drop k),pend,()))
  | 0,k,safe,h,hk=>by
    rw [Le_k10_1]
    unfold ltree_k10_1
    rw [cd_f (by omega),List.drop_of_length_le (by omega)]
    rfl
  | d + 1,k,safe,h,hk=>by
    rw [Le_k10_1]
    unfold ltree_k10_1
    have hkl:k < pend.length:=by omega
    have hf:=h.few
    have hlo:=h.lo
    rw [cd_t (by omega),cd_t (by omega),cd_t (by omega),Fe_k3]
    have e0:(tree_k3 (k:Int) size safe pend some).map (fun r=>(r.1,())) = some (size,()):=rfl
    rw [e0]
    simp only [Option.bind_some,Int.toNat_natCast]
    rw [lay_step h hkl fun z=>L_k10_1 ((),(pend.length:Int),IntKind.i64.wrap ((k:Int) + 1),()) ((size,()),(),z,pend,())]
    have hc:=clampS_in (size:=size) (x:=size) (by omega)
    rw [i64id (by omega) (by omega),show ((k:Int) + 1) = ((k + 1:Nat):Int) by omega,Flush_loop d (k + 1) _ (h.lay (by omega) (List.getElem_mem hkl)) (by omega),List.drop_eq_getElem_cons hkl]
    rfl
theorem e_Flush {size:Int} {safe:List ByteArray} {pend:List W2} (h:DInv size safe pend):F_k2 () ((size,()),safe,pend,()) = some ((),((size,()),keepS (fun _=>(clampS size size).toNat) 0 safe pend,(),[],())):=by
  rw [Fe_k2]
  unfold tree_k2
  rw [Fe_k10]
  unfold tree_k10
  have:=Flush_loop pend.length 0 safe h (by omega)
  rw [show ((0:Nat):Int) = 0 from rfl] at this
  rw [this]
  rfl
theorem Crash_loop {size:Int} {pend:List W2} {keep:List Int}:∀ (d k:Nat) (safe:List ByteArray),DInv size safe pend→k + d = pend.length →
    L_k11_1 ((),(pend.length:Int),(k:Int),()) ((size,()),(keep,()),safe,pend,()) = some ((),((size,()),(keep,()),keepS (fun k=>(clampS size (keep.getD k 0)).toNat) k safe (pend.drop k),pend,()))
  | 0,k,safe,h,hk=>by
    rw [Le_k11_1]
    unfold ltree_k11_1
    rw [cd_f (by omega),List.drop_of_length_le (by omega)]
    rfl
  | d + 1,k,safe,h,hk=>by
    rw [Le_k11_1]
    unfold ltree_k11_1
    have hkl:k < pend.length:=by omega
    have hf:=h.few
    have hlo:=h.lo
    rw [cd_t (by omega),cd_t (by omega),cd_t (by omega),Fe_k1]
    have e0:(tree_k1 (k:Int) keep some).map (fun r=>(r.1,())) = some (keep.getD k 0,()):=by
      unfold tree_k1
      rw [cond_decide]
      by_cases hkk:(k:Int) < keep.length
      · rw [if_pos hkk,cd_t (by omega),cd_t (by omega),Int.toNat_natCast]; rfl
      · rw [if_neg hkk]
        have:keep.getD k 0 = 0:=by rw [List.getD_eq_getElem?_getD,List.getElem?_eq_none (by omega)]; rfl
        rw [this]; rfl
    rw [e0]
    simp only [Option.bind_some,Int.toNat_natCast]
    rw [lay_step h hkl fun z=>L_k11_1 ((),(pend.length:Int),IntKind.i64.wrap ((k:Int) + 1),()) ((size,()),(keep,()),z,pend,())]
    have hc:=clampS_in (size:=size) (x:=keep.getD k 0) (by omega)
    rw [i64id (by omega) (by omega),show ((k:Int) + 1) = ((k + 1:Nat):Int) by omega,Crash_loop d (k + 1) _ (h.lay (by omega) (List.getElem_mem hkl)) (by omega),List.drop_eq_getElem_cons hkl]
    rfl
theorem e_Crash {size:Int} {safe:List ByteArray} {pend:List W2} {keep:List Int} (h:DInv size safe pend):F_k0 (keep,()) ((size,()),safe,pend,()) = some ((),((size,()),keepS (fun k=>(clampS size (keep.getD k 0)).toNat) 0 safe pend,(),[],())):=by
  rw [Fe_k0]
  unfold tree_k0
  rw [Fe_k11]
  unfold tree_k11
  have:=Crash_loop (keep:=keep) pend.length 0 safe h (by omega)
  rw [show ((0:Nat):Int) = 0 from rfl] at this
  rw [this]
  rfl
def okN (n size:Int):Prop:=1≤n∧n≤256∧32≤size∧size≤512
instance (n size:Int):Decidable (okN n size):=by unfold okN; exact inferInstance
theorem New_loop {n size:Int} (h:okN n size):∀ (d k:Nat) (s:Int),(k:Int) + d = n →
    L_k12_5 (size,n,(k:Int),()) (List.replicate k (zerosB size.toNat),(s,()),()) = some ((),(List.replicate n.toNat (zerosB size.toNat),(s,()),()))
  | 0,k,s,hk=>by
    rw [Le_k12_5]
    unfold ltree_k12_5
    rw [cd_f (by omega),show n.toNat = k by omega]
  | d + 1,k,s,hk=>by
    obtain ⟨h1,h2,h3,h4⟩:=h
    rw [Le_k12_5]
    unfold ltree_k12_5
    rw [cd_t (by omega),e_Repeat0 (by omega) (by omega)]
    simp only [Option.bind_some]
    rw [cd_t (by rw [List.length_replicate]; omega),i64id (by omega) (by omega),List.nil_append,show ((k:Int) + 1) = ((k + 1:Nat):Int) by omega,← List.replicate_succ']
    exact New_loop ⟨h1,h2,h3,h4⟩ d (k + 1) s (by omega)
theorem e_New {n size:Int} (h:okN n size):F_k12 (n,size,()) () = some (.inr ((),((size,()),List.replicate n.toNat (zerosB size.toNat),[],()))):=by
  have h':=h
  obtain ⟨h1,h2,h3,h4⟩:=h
  rw [Fe_k12]
  unfold tree_k12
  rw [cd_f (by omega),cd_f (by omega),cd_f (by omega),cd_f (by omega)]
  have:=New_loop h' n.toNat 0 size (by omega)
  rw [show ((0:Nat):Int) = 0 from rfl,show List.replicate 0 (zerosB size.toNat) = [] from rfl] at this
  rw [this]
  rfl
theorem keepS_sz {size:Int} {c:Nat→Nat} (hc:∀ k,(c k:Int)≤size):∀ (l:List W2) (k:Nat) (safe:List ByteArray),
    (∀ s,s∈safe→(s.size:Int) = size)→(∀ p,p∈l→0≤p.1∧p.1 < safe.length∧(p.2.size:Int) = size)→∀ s,s∈keepS c k safe l→(s.size:Int) = size
  | [],k,safe,h,_,s,hs=>h s hs
  | p :: l,k,safe,h,hp,s,hs=>by
    refine keepS_sz hc l (k + 1) (layW (c k) safe p) (layW_sz (hc k) h (hp p List.mem_cons_self)) ?_ s hs
    intro q hq
    rw [layW_len]
    exact hp q (List.mem_cons_of_mem _ hq)
theorem DInv.keep {size:Int} {safe:List ByteArray} {pend:List W2} (h:DInv size safe pend) {c:Nat→Nat} (hc:∀ k,(c k:Int)≤size):DInv size (keepS c 0 safe pend) [] :=
  ⟨h.lo,h.hi,by rw [keepS_len]; exact h.n2,keepS_sz hc pend 0 safe h.sz h.pd,fun p hp=>(by cases hp),by simp⟩
theorem ext_all {b:ByteArray} {c:Nat} (h:b.size = c):b.extract 0 c = b:=by subst h; exact ByteArray.extract_zero_size
theorem ext_none {b:ByteArray} {c:Nat} (h:b.size≤c):b.extract c b.size = ByteArray.empty:=by
  rw [← ByteArray.size_eq_zero_iff,ByteArray.size_extract]
  omega
theorem clamp_self {size:Int} (h:0≤size):clampS size size = size:=by
  unfold clampS
  rw [if_neg (show ¬ (0:Int) > size by omega),if_neg (show ¬ size < size by omega)]
def flushS (size:Int) (safe:List ByteArray) (pend:List W2):List ByteArray:=keepS (fun _=>(clampS size size).toNat) 0 safe pend
end Go.Proofs.Ytljfdfghagiblaa.S2
set_option linter.unusedVariables false
set_option linter.unusedSimpArgs false
namespace Go.Proofs.Ytljfdfghagiblaa.S2
open Go
def bs (s:ByteArray):List UInt8:=s.data.toList
theorem bs_len (s:ByteArray):(bs s).length = s.size:=Array.length_toList
theorem bs_append (a b:ByteArray):bs (a ++ b) = bs a ++ bs b:=by simp [bs,ByteArray.data_append]
theorem bs_extract (s:ByteArray) (a b:Nat):bs (s.extract a b) = ((bs s).drop a).take (b - a):=by
  simp [bs,ByteArray.data_extract,List.extract_eq_take_drop]
theorem bs_inj {a b:ByteArray} (h:bs a = bs b):a = b:=by
  cases a; cases b; simp only [bs] at h; rw [Array.toList_inj.1 h]
theorem bs_mk (l:List UInt8):bs ⟨l.toArray⟩ = l:=rfl
theorem bs_zeros (n:Nat):bs (zerosB n) = List.replicate n 0:=rfl
theorem bs_nums (l:List Int):bs (Go.strOfNums l) = l.map fun n=>UInt8.ofNat n.toNat:=by
  simp [bs,Go.strOfNums]
def nb (l:List UInt8):Nat:=l.foldl (fun n b=>n * 256 + b.toNat) 0
theorem nb_snoc (l:List UInt8) (b:UInt8):nb (l ++ [b]) = nb l * 256 + b.toNat:=by simp [nb]
theorem nb_lt:∀ (n:Nat) (l:List UInt8),l.length = n→nb l < 256 ^ n
  | 0,l,h=>by rw [List.eq_nil_of_length_eq_zero h]; decide
  | n + 1,l,h=>by
    have hne:l≠[]:=by intro e; rw [e] at h; cases h
    rw [← List.dropLast_concat_getLast hne,nb_snoc]
    have h1:=nb_lt n l.dropLast (by simp [h])
    have h2:=(l.getLast hne).toNat_lt
    rw [Nat.pow_succ]
    omega
theorem nb_inj:∀ (n:Nat) (l l':List UInt8),l.length = n→l'.length = n→nb l = nb l'→l = l'
  | 0,l,l',h,h',_=>by rw [List.eq_nil_of_length_eq_zero h,List.eq_nil_of_length_eq_zero h']
  | n + 1,l,l',h,h',e=>by
    have hne:l≠[]:=by intro e; rw [e] at h; cases h
    have hne':l'≠[]:=by intro e; rw [e] at h'; cases h'
    rw [← List.dropLast_concat_getLast hne,← List.dropLast_concat_getLast hne',nb_snoc,nb_snoc] at e
    have h1:=(l.getLast hne).toNat_lt
    have h2:=(l'.getLast hne').toNat_lt
    rw [← List.dropLast_concat_getLast hne,← List.dropLast_concat_getLast hne',nb_inj n l.dropLast l'.dropLast (by simp [h]) (by simp [h']) (by omega),show l.getLast hne = l'.getLast hne' from UInt8.toNat_inj.1 (by omega)]
def eightL (n:Nat):List UInt8:=[n / 72057594037927936,n / 281474976710656,n / 1099511627776,n / 4294967296,n / 16777216,n / 65536,n / 256,n].map UInt8.ofNat
theorem eightL_len (n:Nat):(eightL n).length = 8:=rfl
theorem nb_eight {n:Nat} (h:n < 18446744073709551616):nb (eightL n) = n:=by
  simp only [eightL,nb,List.map_cons,List.map_nil,List.foldl_cons,List.foldl_nil,UInt8.toNat_ofNat']
  omega
def eightB (n:Nat):ByteArray:=⟨(eightL n).toArray⟩
theorem eightB_size (n:Nat):(eightB n).size = 8:=rfl
theorem u8w (n:Int):IntKind.u8.wrap n = n % 256:=by simp [IntKind.wrap,IntKind.bits,IntKind.signed]
theorem e_eight {n:Int} (h0:0≤n) (h1:n < 18446744073709551616):F_k63 (n,()) () = some (eightB n.toNat,()):=by
  rw [Fe_k63]
  unfold tree_k63
  simp only [Option.map_some,Option.some.injEq,Prod.mk.injEq,and_true]
  apply bs_inj
  rw [bs_nums]
  simp only [eightB,bs_mk,eightL,List.map_cons,List.map_nil,u8w,Int.fdiv_eq_ediv_of_nonneg _ (by decide:(0:Int)≤72057594037927936),Int.fdiv_eq_ediv_of_nonneg _ (by decide:(0:Int)≤281474976710656),Int.fdiv_eq_ediv_of_nonneg _ (by decide:(0:Int)≤1099511627776),Int.fdiv_eq_ediv_of_nonneg _ (by decide:(0:Int)≤4294967296),Int.fdiv_eq_ediv_of_nonneg _ (by decide:(0:Int)≤16777216),Int.fdiv_eq_ediv_of_nonneg _ (by decide:(0:Int)≤65536),Int.fdiv_eq_ediv_of_nonneg _ (by decide:(0:Int)≤256),Int.fdiv_eq_ediv_of_nonneg _ (by decide:(0:Int)≤1)]
  have hb:∀ (a:Int) (b:Nat),a.toNat % 256 = b % 256→UInt8.ofNat a.toNat = UInt8.ofNat b:=by
    intro a b hab
    apply UInt8.toNat_inj.1
    rw [UInt8.toNat_ofNat',UInt8.toNat_ofNat']
    exact hab
  congr 1
  · exact hb _ _ (by omega)
  congr 1
  · exact hb _ _ (by omega)
  congr 1
  · exact hb _ _ (by omega)
  congr 1
  · exact hb _ _ (by omega)
  congr 1
  · exact hb _ _ (by omega)
  congr 1
  · exact hb _ _ (by omega)
  congr 1
  · exact hb _ _ (by omega)
  congr 1
  · exact hb _ _ (by omega)
theorem strAt_bs (s:ByteArray) (i:Nat):strAt s (i:Int) = ((bs s).getD i 0).toNat:=rfl
theorem or_byte {n b:Nat} (hn:n < 18446744073709551616 / 256) (hb:b < 256):IntKind.u64.wrap (((BitVec.ofInt 64 (IntKind.u64.wrap ((n:Int) * 256)) ||| BitVec.ofInt 64 (IntKind.u64.wrap (b:Int))).toNat:Nat):Int) = ((n * 256 + b:Nat):Int):=by
  rw [u64id (n:=(n:Int) * 256) (by omega) (by omega),u64id (n:=(b:Int)) (by omega) (by omega),show ((n:Int) * 256) = ((n * 256:Nat):Int) by omega,BitVec.ofInt_natCast,BitVec.ofInt_natCast,BitVec.toNat_or,BitVec.toNat_ofNat,BitVec.toNat_ofNat,Nat.mod_eq_of_lt (by omega),Nat.mod_eq_of_lt (by omega)]
  have:=Nat.two_pow_add_eq_or_of_lt (show b < 2 ^ 8 by omega) n
  rw [show n * 256 = 2 ^ 8 * n by omega,← this,u64id (by omega) (by omega)]
theorem number_loop (s:ByteArray) (hs:s.size≤8):∀ (d i:Nat),i + d = s.size →
    L_k65_3 (s,(nb ((bs s).take i):Int),(s.size:Int),(i:Int),()) () = some (((nb (bs s):Int),()),())
  | 0,i,h=>by
    rw [Le_k65_3]
    unfold ltree_k65_3
    rw [cd_f (by omega),List.take_of_length_le (by rw [bs_len]; omega)]
  | d + 1,i,h=>by
    rw [Le_k65_3]
    unfold ltree_k65_3
    have hi:i < (bs s).length:=by rw [bs_len]; omega
    have hlt:=nb_lt i ((bs s).take i) (by rw [List.length_take]; omega)
    have hp:256 ^ i≤256 ^ 7:=Nat.pow_le_pow_right (by decide) (by omega)
    have h7:(256:Nat) ^ 7 = 72057594037927936:=by decide
    have hb:((bs s).getD i 0).toNat < 256:=UInt8.toNat_lt _
    rw [cd_t (by omega),cd_t (by omega),cd_t (by omega),strAt_bs,or_byte (by omega) hb,i64id (by omega) (by omega),show ((i:Int) + 1) = ((i + 1:Nat):Int) by omega]
    have e:nb ((bs s).take i) * 256 + ((bs s).getD i 0).toNat = nb ((bs s).take (i + 1)):=by
      rw [List.take_succ_eq_append_getElem hi,nb_snoc,List.getD_eq_getElem?_getD,List.getElem?_eq_getElem hi,Option.getD_some]
    rw [e]
    exact number_loop s hs d (i + 1) (by omega)
theorem e_number {s:ByteArray} (hs:s.size≤8):F_k65 (s,()) () = some ((nb (bs s):Int),()):=by
  rw [Fe_k65]
  unfold tree_k65
  have:=number_loop s hs s.size 0 (by omega)
  rw [List.take_zero,show nb [] = 0 from rfl] at this
  rw [show ((0:Nat):Int) = 0 from rfl] at this
  rw [this]
  rfl
def okF (n:Int) (t:ByteArray) (size:Int):Prop:=32≤size∧size≤512∧n≠0∧(t.size:Int)≤size - 18
instance (n:Int) (t:ByteArray) (size:Int):Decidable (okF n t size):=by unfold okF; exact inferInstance
def lenB (k:Nat):ByteArray:=⟨#[UInt8.ofNat (k / 256),UInt8.ofNat k]⟩
def frameB (n:Int) (t:ByteArray) (size:Int):ByteArray:=eightB n.toNat ++ lenB t.size ++ t ++ zerosB (size - 18 - t.size).toNat ++ eightB n.toNat
theorem lenB_size (k:Nat):(lenB k).size = 2:=rfl
theorem frameB_size {n:Int} {t:ByteArray} {size:Int} (h:okF n t size):((frameB n t size).size:Int) = size:=by
  obtain ⟨h1,h2,h3,h4⟩:=h
  unfold frameB
  simp only [ByteArray.size_append,eightB_size,lenB_size,zerosB_size]
  omega
theorem e_sized {n:Int}:F_k66 (n,()) () = some (decide (32≤n∧n≤512),()):=by
  rw [Fe_k66]
  unfold tree_k66
  simp only [cond_decide]
  by_cases h:n≥32
  · rw [if_pos h,show decide (32≤n∧n≤512) = decide (n≤512) by rw [Bool.eq_iff_iff]; simp; omega]
  · rw [if_neg h,decide_eq_false (show ¬ (32≤n∧n≤512) by omega)]
theorem len_nums {k:Nat} (h:k≤494):Go.strOfNums ([] ++ [IntKind.u8.wrap ((k:Int).fdiv 256)] ++ [IntKind.u8.wrap (k:Int)]) = lenB k:=by
  apply bs_inj
  rw [bs_nums]
  have hb:∀ (a:Int) (b:Nat),a.toNat % 256 = b % 256→UInt8.ofNat a.toNat = UInt8.ofNat b:=by
    intro a b hab
    apply UInt8.toNat_inj.1
    rw [UInt8.toNat_ofNat',UInt8.toNat_ofNat']
    exact hab
  show [_,_] = [_,_]
  rw [u8w,u8w,Int.fdiv_eq_ediv_of_nonneg _ (by decide)]
  congr 1
  · exact hb _ _ (by omega)
  congr 1
  · exact hb _ _ (by omega)
def frameS (n:Int) (t:ByteArray) (size:Int):ByteArray×Bool:=if okF n t size then (frameB n t size,true) else (ByteArray.empty,false)
theorem e_Frame {n:Int} {t:ByteArray} {size:Int} (h0:0≤n) (h1:n < 18446744073709551616):F_k59 (n,t,size,()) () = some (((frameS n t size).1,(frameS n t size).2,()),()):=by
  rw [Fe_k59]
  unfold tree_k59
  rw [e_sized]
  simp only [Option.bind_some]
  unfold frameS
  by_cases hs:32≤size∧size≤512
  · rw [decide_eq_true hs]
    simp only [Bool.not_true,cond_false,cond_eqi,cond_decide]
    by_cases hn:n = 0
    · rw [if_pos hn,if_neg (fun h=>h.2.2.1 hn)]
    · rw [if_neg hn,i64id (n:=size - 18) (by omega) (by omega)]
      by_cases ht:(t.size:Int) > size - 18
      · rw [if_pos ht,if_neg (fun h=>by have:=h.2.2.2; omega)]
      · have hk:t.size≤494:=by omega
        have hz:(zerosB (size - 18 - t.size).toNat).size≤512:=by rw [zerosB_size]; omega
        rw [if_neg ht,e_eight h0 h1,len_nums hk,i64id (n:=size - 18 - (t.size:Int)) (by omega) (by omega),e_Repeat0 (by omega) (by omega)]
        simp only [Option.bind_some]
        rw [if_pos (by rw [eightB_size,lenB_size]; omega),if_pos (by rw [ByteArray.size_append,eightB_size,lenB_size]; omega),if_pos (by simp only [ByteArray.size_append,eightB_size,lenB_size]; omega),if_pos (by simp only [ByteArray.size_append,eightB_size,lenB_size]; omega),if_pos ⟨hs.1,hs.2,hn,by omega⟩]
        rfl
  · rw [decide_eq_false hs,if_neg (fun h=>hs ⟨h.1,h.2.1⟩)]; rfl
def okU (s:ByteArray):Prop:=32≤s.size∧s.size≤512∧(bs s).take 8 = (bs s).drop (s.size - 8)∧nb ((bs s).take 8)≠0∧nb (((bs s).drop 8).take 2)≤s.size - 18
instance (s:ByteArray):Decidable (okU s):=by unfold okU; exact inferInstance
def unfS (s:ByteArray):Int×ByteArray×Bool:=if okU s then ((nb ((bs s).take 8):Int),s.extract 10 (10 + nb (((bs s).drop 8).take 2)),true) else (0,ByteArray.empty,false)
theorem unfS_lt (s:ByteArray):0≤(unfS s).1∧(unfS s).1 < 18446744073709551616:=by
  unfold unfS
  split
  · rename_i h
    have:=nb_lt 8 ((bs s).take 8) (by rw [List.length_take,bs_len]; have:=h.1; omega)
    have h8:(256:Nat) ^ 8 = 18446744073709551616:=by decide
    dsimp only
    omega
  · exact ⟨Int.le_refl _,by decide⟩
theorem e_Unframe {s:ByteArray}:F_k62 (s,()) () = some (((unfS s).1,(unfS s).2.1,(unfS s).2.2,()),()):=by
  rw [Fe_k62]
  unfold tree_k62 unfS
  rw [e_sized]
  simp only [Option.bind_some]
  by_cases hs:32≤(s.size:Int)∧(s.size:Int)≤512
  · rw [decide_eq_true hs]
    simp only [Bool.not_true,cond_false]
    have b8:bs (s.extract 0 8) = (bs s).take 8:=by rw [bs_extract,List.drop_zero]
    have b2:bs (s.extract 8 10) = ((bs s).drop 8).take 2:=by rw [bs_extract]
    have bl:bs (s.extract (s.size - 8) s.size) = (bs s).drop (s.size - 8):=by
      rw [bs_extract,List.take_of_length_le]
      rw [List.length_drop,bs_len]; omega
    have e8:((s.size:Int) - 8).toNat = s.size - 8:=by omega
    have l2:=nb_lt 2 (((bs s).drop 8).take 2) (by rw [List.length_take,List.length_drop,bs_len]; omega)
    have h2:(256:Nat) ^ 2 = 65536:=by decide
    rw [cd_t (by omega),e_number (s:=s.extract 0 8) (by rw [ByteArray.size_extract]; omega)]
    simp only [Option.bind_some]
    rw [cd_t (by omega),e_number (s:=s.extract 8 10) (by rw [ByteArray.size_extract]; omega)]
    simp only [Option.bind_some]
    rw [i64id (n:=(s.size:Int) - 8) (by omega) (by omega),i64id (n:=(s.size:Int) - 18) (by omega) (by omega),e8,b8,b2,i64id (n:=(nb (((bs s).drop 8).take 2):Int)) (by omega) (by omega),i64id (n:=10 + (nb (((bs s).drop 8).take 2):Int)) (by omega) (by omega),cond_eqi]
    by_cases hn:(nb ((bs s).take 8):Int) = 0
    · rw [if_pos hn,if_neg (fun h=>h.2.2.2.1 (by omega))]
    · rw [if_neg hn,cd_t (by omega),cd_t (by omega),e_number (s:=s.extract (s.size - 8) s.size) (by rw [ByteArray.size_extract]; omega)]
      simp only [Option.bind_some]
      rw [bl,cond_nei]
      by_cases he:(nb ((bs s).take 8):Int) = (nb ((bs s).drop (s.size - 8)):Int)
      · have he':(bs s).take 8 = (bs s).drop (s.size - 8):=nb_inj 8 _ _ (by rw [List.length_take,bs_len]; omega) (by rw [List.length_drop,bs_len]; omega) (by omega)
        rw [if_pos he,cond_decide]
        by_cases hl:(nb (((bs s).drop 8).take 2):Int) > (s.size:Int) - 18
        · rw [if_pos hl,if_neg (fun h=>by have:=h.2.2.2.2; omega)]
        · rw [if_neg hl,cd_t (by omega),cd_t (by omega),if_pos ⟨by omega,by omega,he',by omega,by omega⟩,show (10 + (nb (((bs s).drop 8).take 2):Int)).toNat = 10 + nb (((bs s).drop 8).take 2) by omega]
      · rw [if_neg he,if_neg (fun h=>he (by rw [h.2.2.1]))]
  · rw [decide_eq_false hs,if_neg (fun h=>hs ⟨by have:=h.1; omega,by have:=h.2.1; omega⟩)]; rfl
theorem frame_bs (n:Int) (t:ByteArray) (size:Int):bs (frameB n t size) = eightL n.toNat ++ ([UInt8.ofNat (t.size / 256),UInt8.ofNat t.size] ++ (bs t ++ (List.replicate (size - 18 - t.size).toNat 0 ++ eightL n.toNat))):=by
  unfold frameB
  simp only [bs_append,bs_zeros]
  show ((((eightL n.toNat ++ [UInt8.ofNat (t.size / 256),UInt8.ofNat t.size]) ++ _) ++ _) ++ eightL n.toNat) = _
  simp only [List.append_assoc]
theorem frame_head (n:Int) (t:ByteArray) (size:Int):(bs (frameB n t size)).take 8 = eightL n.toNat:=by
  rw [frame_bs,List.take_append_of_le_length (by rw [eightL_len]; omega),List.take_of_length_le (by rw [eightL_len]; omega)]
theorem frame_tail {n:Int} {t:ByteArray} {size:Int} (h:okF n t size):(bs (frameB n t size)).drop ((frameB n t size).size - 8) = eightL n.toNat:=by
  have hs:=frameB_size h
  obtain ⟨h1,h2,h3,h4⟩:=h
  have:bs (frameB n t size) = (eightL n.toNat ++ ([UInt8.ofNat (t.size / 256),UInt8.ofNat t.size] ++ (bs t ++ List.replicate (size - 18 - t.size).toNat 0))) ++ eightL n.toNat:=by
    rw [frame_bs]; simp only [List.append_assoc]
  rw [this,List.drop_left']
  simp only [List.length_append,eightL_len,List.length_cons,List.length_nil,bs_len,List.length_replicate]
  omega
theorem unf_frame {n:Int} {t:ByteArray} {size:Int} (h:okF n t size) (h0:0≤n) (h1:n < 18446744073709551616):unfS (frameB n t size) = (n,t,true):=by
  have hs:=frameB_size h
  have hh:=frame_head n t size
  have ht:=frame_tail h
  obtain ⟨k1,k2,k3,k4⟩:=h
  have hn:nb (eightL n.toNat) = n.toNat:=nb_eight (by omega)
  have h2:((bs (frameB n t size)).drop 8).take 2 = [UInt8.ofNat (t.size / 256),UInt8.ofNat t.size]:=by
    rw [frame_bs,List.drop_left' (eightL_len _)]
    rfl
  have h2n:nb [UInt8.ofNat (t.size / 256),UInt8.ofNat t.size] = t.size:=by
    simp only [nb,List.foldl_cons,List.foldl_nil,UInt8.toNat_ofNat']
    omega
  have ho:okU (frameB n t size):=⟨by omega,by omega,by rw [hh,ht],by rw [hh,hn]; omega,by rw [h2,h2n]; omega⟩
  unfold unfS
  rw [if_pos ho,hh,hn,h2,h2n]
  have he:(frameB n t size).extract 10 (10 + t.size) = t:=by
    apply bs_inj
    rw [bs_extract,frame_bs,show (10:Nat) = 8 + 2 by rfl,← List.drop_drop,List.drop_left' (eightL_len _)]
    show List.take _ (bs t ++ _) = _
    rw [List.take_left' (by rw [bs_len]; omega)]
  rw [he,show ((n.toNat:Nat):Int) = n by omega]
structure Sect (size:Int) (s:ByteArray) (n:Int) (t:ByteArray):Prop where
  lo:32≤size
  hi:size≤512
  sz:(s.size:Int) = size
  n0:0≤n
  n1:n < 18446744073709551616
  head:(bs s).take 8 = eightL n.toNat
  tail:(bs s).drop (s.size - 8) = eightL n.toNat
  says:unfS s = (if n = 0 then (0,ByteArray.empty,false) else (n,t,true))
theorem sect_frame {n:Int} {t:ByteArray} {size:Int} (h:okF n t size) (h0:0≤n) (h1:n < 18446744073709551616):Sect size (frameB n t size) n t :=
  ⟨h.1,h.2.1,frameB_size h,h0,h1,frame_head n t size,frame_tail h,by rw [if_neg h.2.2.1]; exact unf_frame h h0 h1⟩
theorem sect_zero {size:Int} (lo:32≤size) (hi:size≤512) (t:ByteArray):Sect size (zerosB size.toNat) 0 t:=by
  have e8:eightL (0:Int).toNat = List.replicate 8 0:=rfl
  refine ⟨lo,hi,by rw [zerosB_size]; omega,Int.le_refl _,by decide,?_,?_,?_⟩
  · rw [bs_zeros,List.take_replicate,Nat.min_eq_left (by omega),e8]
  · rw [bs_zeros,zerosB_size,List.drop_replicate,show size.toNat - (size.toNat - 8) = 8 by omega,e8]
  · unfold unfS
    rw [if_neg,if_pos rfl]
    intro h
    apply h.2.2.2.1
    rw [bs_zeros,List.take_replicate,Nat.min_eq_left (by omega)]
    rfl
def newS (a b:Int) (s t:ByteArray):Int×Int×ByteArray :=
  if (unfS t).2.2 = true∧((unfS s).2.2 = false∨(unfS t).1 > (unfS s).1) then (b,(unfS t).1,(unfS t).2.1)
  else if (unfS s).2.2 = true then (a,(unfS s).1,(unfS s).2.1) else (b,0,ByteArray.empty)
theorem newS_lt (a b:Int) (s t:ByteArray):0≤(newS a b s t).2.1∧(newS a b s t).2.1 < 18446744073709551616:=by
  unfold newS
  split
  · exact unfS_lt t
  · split
    · exact unfS_lt s
    · exact ⟨Int.le_refl 0,show (0:Int) < 18446744073709551616 by decide⟩
section
variable {size:Int} {S:List ByteArray} {P:List W2}
def newD (S:List ByteArray) (P:List W2) (a b:Int):Int×Int×ByteArray:=newS a b (readS S P a).1 (readS S P b).1
theorem e_newest {a b:Int} (hP:P.length≤1000000):F_k64 (a,b,()) ((size,()),S,P,()) = some (((newD S P a b).1,(newD S P a b).2.1,(newD S P a b).2.2,()),()):=by
  rw [Fe_k64]
  unfold tree_k64 newD newS
  rw [e_Read hP,e_Read hP]
  simp only [Option.bind_some]
  rw [e_Unframe,e_Unframe]
  simp only [Option.bind_some]
  cases h1:(unfS (readS S P b).1).2.2 <;> cases h2:(unfS (readS S P a).1).2.2 <;> simp [cond_decide]
  split <;> simp_all
theorem e_Load {a b:Int} (hP:P.length≤1000000):F_k60 (a,b,()) ((size,()),S,P,()) = some (((newD S P a b).2.1,(newD S P a b).2.2,()),()):=by
  rw [Fe_k60]
  unfold tree_k60
  rw [e_newest hP]
  rfl
def begD (size:Int) (S:List ByteArray) (P:List W2) (a b:Int) (t:ByteArray):Option W2 :=
  if (a≠b∧0≤a∧0≤b∧a < S.length∧b < S.length)∧(newD S P a b).2.1≠18446744073709551615∧okF ((newD S P a b).2.1 + 1) t size then
    some (if (newD S P a b).1 = a then b else a,frameB ((newD S P a b).2.1 + 1) t size) else none
theorem pad_full {t:ByteArray} (h:(t.size:Int) = size):padW size t = t:=by
  unfold padW
  rw [show (size - t.size).toNat = 0 by omega]
  apply bs_inj
  rw [bs_append,bs_zeros]
  simp
theorem e_Begin {a b:Int} {t:ByteArray} (hd:DInv size S P):F_k58 (a,b,t,()) ((size,()),S,P,()) =
    some ((begD size S P a b t).isSome,((size,()),S,(),P ++ (begD size S P a b t).toList,())):=by
  rw [Fe_k58]
  unfold tree_k58 begD
  have hP:=hd.few
  have hnone:∀ {α:Type} (x:α),(some (false,((size,()),S,(),P,())):Option _) = some ((none:Option W2).isSome,((size,()),S,(),P ++ (none:Option W2).toList,())):=by intro α x; simp
  simp only [cond_eqi,cond_decide]
  by_cases h1:a = b
  · rw [if_pos h1,if_neg (fun h=>h.1.1 h1)]; simp
  rw [if_neg h1]
  by_cases h2:a < 0
  · rw [if_pos h2,if_neg (fun h=>by have:=h.1.2.1; omega)]; simp
  rw [if_neg h2]
  by_cases h3:b < 0
  · rw [if_pos h3,if_neg (fun h=>by have:=h.1.2.2.1; omega)]; simp
  rw [if_neg h3,e_Sectors]
  simp only [Option.bind_some]
  by_cases h4:a≥S.length
  · rw [if_pos h4,if_neg (fun h=>by have:=h.1.2.2.2.1; omega)]; simp
  rw [if_neg h4]
  by_cases h5:b≥S.length
  · rw [if_pos h5,if_neg (fun h=>by have:=h.1.2.2.2.2; omega)]; simp
  rw [if_neg h5,e_newest hP]
  simp only [Option.bind_some]
  have hlt:=newS_lt a b (readS S P a).1 (readS S P b).1
  by_cases h6:(newD S P a b).2.1 = 18446744073709551615
  · rw [if_pos h6,if_neg (fun h=>h.2.1 h6)]; simp
  have hl2:0≤(newD S P a b).2.1 + 1∧(newD S P a b).2.1 + 1 < 18446744073709551616:=by unfold newD at h6 ⊢; omega
  rw [if_neg h6,e_Size]
  simp only [Option.bind_some]
  rw [u64id hl2.1 hl2.2,e_Frame hl2.1 hl2.2]
  simp only [Option.bind_some]
  unfold frameS
  by_cases h7:okF ((newD S P a b).2.1 + 1) t size
  · have hsz:=frameB_size h7
    have hall:(a≠b∧0≤a∧0≤b∧a < S.length∧b < S.length)∧(newD S P a b).2.1≠18446744073709551615∧okF ((newD S P a b).2.1 + 1) t size:=⟨⟨h1,by omega,by omega,by omega,by omega⟩,h6,h7⟩
    rw [if_pos h7,if_pos hall]
    simp only [Bool.not_true,cond_false]
    by_cases h8:(newD S P a b).1 = a
    · simp only [if_pos h8]
      rw [e_Write hd]
      have hm:mayW size S b (frameB ((newD S P a b).2.1 + 1) t size) = true:=by unfold mayW; rw [decide_eq_true]; exact ⟨⟨by omega,by omega⟩,by omega⟩
      rw [hm,pad_full hsz]
      rfl
    · simp only [if_neg h8]
      rw [e_Write hd]
      have hm:mayW size S a (frameB ((newD S P a b).2.1 + 1) t size) = true:=by unfold mayW; rw [decide_eq_true]; exact ⟨⟨by omega,by omega⟩,by omega⟩
      rw [hm,pad_full hsz]
      rfl
  · have hall:¬ ((a≠b∧0≤a∧0≤b∧a < S.length∧b < S.length)∧(newD S P a b).2.1≠18446744073709551615∧okF ((newD S P a b).2.1 + 1) t size):=fun h=>h7 h.2.2
    rw [if_neg h7,if_neg hall]
    simp
theorem beg_in {a b:Int} {t:ByteArray} {p:W2} (h:begD size S P a b t = some p):0≤p.1∧p.1 < S.length∧(p.2.size:Int) = size:=by
  unfold begD at h
  split at h
  · rename_i hc
    cases h
    refine ⟨?_,?_,frameB_size hc.2.2⟩ <;> dsimp only <;> split <;> have:=hc.1 <;> omega
  · cases h
theorem beg_DInv {a b:Int} {t:ByteArray} (hd:DInv size S P) (hl:P.length < 1000000):DInv size S (P ++ (begD size S P a b t).toList):=by
  cases hb:begD size S P a b t with
  | none=>simpa using hd
  | some p =>
    have hin:=beg_in hb
    refine ⟨hd.lo,hd.hi,hd.n2,hd.sz,fun q hq=>?_,by simp; omega⟩
    rcases List.mem_append.1 hq with h | h
    · exact hd.pd q h
    · simp at h
      subst h
      exact hin
theorem e_Save {a b:Int} {t:ByteArray} (hd:DInv size S P) (hl:P.length < 1000000):F_k61 (a,b,t,()) ((size,()),S,P,()) =
    some ((begD size S P a b t).isSome,((size,()),(if (begD size S P a b t).isSome then flushS size S (P ++ (begD size S P a b t).toList) else S),(),(if (begD size S P a b t).isSome then [] else P),())):=by
  rw [Fe_k61]
  unfold tree_k61
  rw [e_Begin hd]
  simp only [Option.bind_some]
  cases hb:begD size S P a b t with
  | none=>simp
  | some p =>
    have:=beg_DInv (a:=a) (b:=b) (t:=t) hd hl
    rw [hb] at this
    simp only [Option.isSome_some,Bool.not_true,cond_false,if_true]
    rw [e_Flush this]
    rfl
end
theorem bytes_self (a:ByteArray):(a.toList == a.toList) = true:=beq_self_eq_true _
end Go.Proofs.Ytljfdfghagiblaa.S2
