/- Slots on two sectors: saves,one behind the other,and crashes. -/
import Derived.Test.YtljfdfghagiblaaPslot
set_option linter.unusedVariables false
set_option linter.unusedSimpArgs false
namespace Go.Proofs.Ytljfdfghagiblaa.S2
open Go
theorem newS_whichG (s t:ByteArray):(newS 0 1 s t).1 = 0∨(newS 0 1 s t).1 = 1:=by
  unfold newS
  split
  · exact .inr rfl
  · split
    · exact .inl rfl
    · exact .inr rfl
theorem newS_maxG (s t:ByteArray):((unfS s).2.2 = true→(unfS s).1≤(newS 0 1 s t).2.1)∧((unfS t).2.2 = true→(unfS t).1≤(newS 0 1 s t).2.1):=by
  unfold newS
  cases h1:(unfS t).2.2 <;> cases h2:(unfS s).2.2 <;> simp
  split <;> dsimp only <;> omega
theorem newS_w0G {f t:ByteArray} {n:Int} {u:ByteArray} (hf:unfS f = (n,u,true)) (ht:(unfS t).2.2 = true→(unfS t).1≤n):newS 0 1 f t = (0,n,u):=by
  unfold newS
  rw [hf]
  rw [if_neg,if_pos rfl]
  rintro ⟨h1,h2⟩
  have:=ht h1
  dsimp only at h2
  rcases h2 with h2 | h2
  · cases h2
  · omega
theorem newS_w1G {f s:ByteArray} {n:Int} {u:ByteArray} (hf:unfS f = (n,u,true)) (hs:(unfS s).2.2 = true→(unfS s).1 < n):newS 0 1 s f = (1,n,u):=by
  unfold newS
  rw [hf]
  rw [if_pos]
  refine ⟨rfl,?_⟩
  cases h:(unfS s).2.2
  · exact .inl rfl
  · exact .inr (hs h)
structure Two (size:Int) (s0 s1:ByteArray):Prop where
  lo:32≤size
  hi:size≤512
  h0:(s0.size:Int) = size
  h1:(s1.size:Int) = size
theorem Two.D {size:Int} {s0 s1:ByteArray} (h:Two size s0 s1):DInv size [s0,s1] [] :=
  ⟨h.lo,h.hi,by simp,fun s hs=>by simp at hs; rcases hs with rfl | rfl; exact h.h0; exact h.h1,fun p hp=>(by cases hp),by simp⟩
theorem new2G (s0 s1:ByteArray):newD [s0,s1] [] 0 1 = newS 0 1 s0 s1:=rfl
theorem okG {size n:Int} {t:ByteArray} (lo:32≤size) (hi:size≤512) (hn:0≤n):okF (n + 1) t size↔(t.size:Int)≤size - 18:=by
  unfold okF
  constructor
  · intro h; exact h.2.2.2
  · intro h; exact ⟨lo,hi,by omega,h⟩
theorem beg2G {size:Int} {s0 s1 t:ByteArray} (h:Two size s0 s1) (hn:(newS 0 1 s0 s1).2.1 < 18446744073709551615) :
    begD size [s0,s1] [] 0 1 t = if (t.size:Int)≤size - 18 then some (if (newS 0 1 s0 s1).1 = 0 then 1 else 0,frameB ((newS 0 1 s0 s1).2.1 + 1) t size) else none:=by
  have h0:=(newS_lt 0 1 s0 s1).1
  unfold begD
  rw [new2G]
  by_cases ht:(t.size:Int)≤size - 18
  · rw [if_pos ht,if_pos ⟨by simp,by omega,(okG h.lo h.hi h0).2 ht⟩]
  · rw [if_neg ht,if_neg (fun hh=>ht ((okG h.lo h.hi h0).1 hh.2.2))]
theorem lay0G (c:Nat→Nat) (f s0 s1:ByteArray):keepS c 0 [s0,s1] [(0,f)] = [f.extract 0 (c 0) ++ s0.extract (c 0) s0.size,s1]:=rfl
theorem lay1G (c:Nat→Nat) (f s0 s1:ByteArray):keepS c 0 [s0,s1] [(1,f)] = [s0,f.extract 0 (c 0) ++ s1.extract (c 0) s1.size]:=rfl
theorem mix_allG {size:Int} {f s:ByteArray} (hf:(f.size:Int) = size) (hs:(s.size:Int) = size):f.extract 0 size.toNat ++ s.extract size.toNat s.size = f:=by
  rw [ext_all (by omega),ext_none (by omega)]
  apply bs_inj
  rw [bs_append]
  simp [bs]
theorem fl0G {size:Int} {f s0 s1:ByteArray} (h:Two size s0 s1) (hf:(f.size:Int) = size):flushS size [s0,s1] [(0,f)] = [f,s1]:=by
  have:=h.lo
  unfold flushS
  rw [lay0G,clamp_self (by omega)]
  show [f.extract 0 size.toNat ++ s0.extract size.toNat s0.size,s1] = _
  rw [mix_allG hf h.h0]
theorem fl1G {size:Int} {f s0 s1:ByteArray} (h:Two size s0 s1) (hf:(f.size:Int) = size):flushS size [s0,s1] [(1,f)] = [s0,f]:=by
  have:=h.lo
  unfold flushS
  rw [lay1G,clamp_self (by omega)]
  show [s0,f.extract 0 size.toNat ++ s1.extract size.toNat s1.size] = _
  rw [mix_allG hf h.h1]
def savedG (size:Int) (s0 s1 t:ByteArray):List ByteArray :=
  if (t.size:Int)≤size - 18 then (if (newS 0 1 s0 s1).1 = 0 then [s0,frameB ((newS 0 1 s0 s1).2.1 + 1) t size] else [frameB ((newS 0 1 s0 s1).2.1 + 1) t size,s1]) else [s0,s1]
theorem saved_flush {size:Int} {s0 s1 t:ByteArray} (h:Two size s0 s1) (hn:(newS 0 1 s0 s1).2.1 < 18446744073709551615) :
    (begD size [s0,s1] [] 0 1 t).isSome = decide ((t.size:Int)≤size - 18)∧((t.size:Int)≤size - 18→flushS size [s0,s1] ([] ++ (begD size [s0,s1] [] 0 1 t).toList) = savedG size s0 s1 t):=by
  have hl:=newS_lt 0 1 s0 s1
  rw [beg2G h hn]
  by_cases ht:(t.size:Int)≤size - 18
  · have hok:=(okG (t:=t) h.lo h.hi hl.1).2 ht
    have hf:=frameB_size hok
    unfold savedG
    simp only [if_pos ht,decide_eq_true ht,Option.isSome_some,List.nil_append,Option.toList_some]
    refine ⟨trivial,fun _=>?_⟩
    rcases newS_whichG s0 s1 with hw | hw
    · simp only [if_pos hw]; exact fl1G h hf
    · simp only [if_neg (show ¬ (newS 0 1 s0 s1).1 = 0 by rw [hw]; decide)]; exact fl0G h hf
  · rw [if_neg ht,decide_eq_false ht]
    exact ⟨rfl,fun hh=>absurd hh ht⟩
structure SlotG (size:Int) (S:List ByteArray) (n:Int) (last:ByteArray):Prop where
  ex:∃ s0 s1 n0 t0 n1 t1,S = [s0,s1]∧Sect size s0 n0 t0∧Sect size s1 n1 t1∧n0≤n∧n1≤n∧(newS 0 1 s0 s1).2 = (n,last)
theorem slotG_new {size:Int} (lo:32≤size) (hi:size≤512):SlotG size (List.replicate (2:Int).toNat (zerosB size.toNat)) 0 ByteArray.empty:=by
  have hz:=sect_zero lo hi ByteArray.empty
  refine ⟨_,_,0,ByteArray.empty,0,ByteArray.empty,rfl,hz,hz,by decide,by decide,?_⟩
  have hs:=hz.says
  unfold newS
  rw [hs]
  rfl
theorem SlotG.two {size:Int} {S:List ByteArray} {n:Int} {last:ByteArray} (h:SlotG size S n last):∃ s0 s1,S = [s0,s1]∧Two size s0 s1∧(newS 0 1 s0 s1).2 = (n,last):=by
  obtain ⟨s0,s1,n0,t0,n1,t1,rfl,k0,k1,l0,l1,hw⟩:=h
  exact ⟨s0,s1,rfl,⟨k0.lo,k0.hi,k0.sz,k1.sz⟩,hw⟩
theorem SlotG.n0 {size:Int} {S:List ByteArray} {n:Int} {last:ByteArray} (h:SlotG size S n last):0≤n:=by
  obtain ⟨s0,s1,n0,t0,n1,t1,rfl,k0,k1,l0,l1,hw⟩:=h
  have:=k0.n0
  omega
theorem slotG_saved {size:Int} {s0 s1 t:ByteArray} {n:Int} {last:ByteArray} (h:SlotG size [s0,s1] n last) (hn:n < 18446744073709551615) (ht:(t.size:Int)≤size - 18):SlotG size (savedG size s0 s1 t) (n + 1) t:=by
  obtain ⟨r0,r1,n0,t0,n1,t1,he,k0,k1,l0,l1,hw⟩:=h
  simp at he
  obtain ⟨rfl,rfl⟩:=he
  have hw1:(newS 0 1 s0 s1).2.1 = n:=by rw [hw]
  have hl:=newS_lt 0 1 s0 s1
  have hx:=newS_maxG s0 s1
  rw [hw1] at hl hx
  have hok:=(okG (t:=t) k0.lo k0.hi hl.1).2 ht
  have hu:=unf_frame hok (by omega) (by omega)
  have hfr:=sect_frame hok (by omega) (by omega)
  unfold savedG
  rw [if_pos ht,hw1]
  rcases newS_whichG s0 s1 with hwh | hwh
  · rw [if_pos hwh]
    exact ⟨_,_,_,_,_,_,rfl,k0,hfr,by omega,Int.le_refl _,by rw [newS_w1G hu (fun hv=>by have:=hx.1 hv; omega)]⟩
  · rw [if_neg (by rw [hwh]; decide)]
    exact ⟨_,_,_,_,_,_,rfl,hfr,k1,Int.le_refl _,by omega,by rw [newS_w0G hu (fun hv=>by have:=hx.2 hv; omega)]⟩
end Go.Proofs.Ytljfdfghagiblaa.S2
