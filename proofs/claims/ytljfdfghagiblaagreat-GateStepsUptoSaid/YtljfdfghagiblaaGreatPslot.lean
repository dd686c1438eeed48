/- A disk,in plain words. -/
import Derived.Test.YtljfdfghagiblaaGreatGdisk
import Derived.Lib.Repeat
import Derived.WideShapes
import Derived.WalkKit
import Derived.Test.YtljfdfghagiblaaGreatGslot
namespace Go.Proofs.YtljfdfghagiblaaGreat.S2
open Go
theorem RD (n:Int):IntKind.u64.wrap n=n % 18446744073709551616:=by
 simp [IntKind.wrap,IntKind.bits,IntKind.signed]
theorem aot (n:Int):IntKind.i64.wrap n=if 9223372036854775808<=n % 18446744073709551616 then n % 18446744073709551616-18446744073709551616 else n % 18446744073709551616:=by
 simp [IntKind.wrap,IntKind.bits,IntKind.signed]
theorem ff {n:Int} (h0:0<=n) (h1:n<18446744073709551616):IntKind.u64.wrap n=n:=by rw [RD]; omega
theorem aQ {n:Int} (h0 : -9223372036854775808<=n) (h1:n<9223372036854775808):IntKind.i64.wrap n=n:=by rw [aot]; split<;>omega
theorem eC {α:Type} {b:Bool} {x y:α} (h:b=true):cond b x y=x:=by rw [h]; rfl
theorem eu {α:Type} {b:Bool} {x y:α} (h:b=false):cond b x y=y:=by rw [h]; rfl
theorem ap {α:Type} {p:Prop} [Decidable p] {x y:α} (h:p):cond (decide p) x y=x:=eC (decide_eq_true h)
theorem bq {α:Type} {p:Prop} [Decidable p] {x y:α} (h:¬ p):cond (decide p) x y=y:=eu (decide_eq_false h)
theorem aW {α:Type} (p:Prop) [Decidable p] (x y:α):cond (decide p) x y=if p then x else y:=by by_cases h:p<;>simp [h]
theorem cN {α:Type} (a b:Int) (x y:α):cond (a==b) x y=if a=b then x else y:=by
 by_cases h:a=b
 ·simp [h]
 ·rw [beq_false_of_ne h,if_neg h]; rfl
theorem En {α:Type} (a b:Int) (x y:α):cond (a != b) x y=if a=b then y else x:=by
 by_cases h:a=b
 ·simp [h]
 ·rw [bne_iff_ne.2 h,if_neg h]; rfl
theorem ci (a b:ByteArray):(a.toList==b.toList)=decide (a=b):=by
 rw [ByteArray.toList_eq,ByteArray.toList_eq,Bool.eq_iff_iff,beq_iff_eq,decide_eq_true_eq]
 exact ⟨fun h=>WideShapes.bytes_inj h,fun h=>by rw [h]⟩
abbrev W2:=Int×ByteArray
def dZ (n:Nat):ByteArray:=⟨(List.replicate n 0).toArray⟩
theorem hE (n:Nat):(dZ n).size=n:=by simp [dZ,ByteArray.size]
theorem Gr {n:Int} (h:0<=n) (h1:n<=140737488355328):bT ((ByteArray.mk #[0]),n,()) ()=some (dZ n.toNat,()):=by
 unfold bT
 have hs:(ByteArray.mk #[0]).size=1:=rfl
 rw [ap ⟨h,(by dsimp only; omega),(by dsimp only; rw [hs]; omega)⟩]
 have:=Go.Lib.repeatL_replicate 0 1 n.toNat
 rw [Nat.mul_one] at this
 have e:Go.Lib.repeatL (ByteArray.mk #[0]).data.toList n.toNat=List.replicate n.toNat 0:=this
 dsimp only
 rw [e]
 rfl
theorem Iz {n:Int} (h:0<=n) (h1:n<=140737488355328):bU (n,()) ()=some (dZ n.toNat,()):=by
 rw [atF]
 unfold pX
 rw [ap h,ap (by omega),ap (by omega)]
 have:Go.strOfNums (List.replicate n.toNat 0)=dZ n.toNat:=by
  unfold Go.strOfNums dZ
  rw [List.map_replicate]
  rfl
 rw [this]
structure ca (size:Int) (safe:List ByteArray) (pend:List W2):Prop where
 lo:32<=size
 hi:size<=512
 n2:safe.length<=256
 sz:∀ s,s∈safe->(s.size:Int)=size
 pd:∀ p,p∈pend->0<=p.1/\p.1<safe.length/\(p.2.size:Int)=size
 few:pend.length<=1000000
theorem Ep {α:Type} {l:List α} {i:Nat} {d:α} (h:i<l.length):l.getD i d∈l:=by
 rw [List.getD_eq_getElem?_getD,List.getElem?_eq_getElem h]
 exact List.getElem_mem h
theorem att {size at_:Int} {safe:List ByteArray} {pend:List W2}:oQ (at_,()) ((size,()),safe,pend,())=some (decide (0<=at_/\at_<safe.length),()):=by
 rw [aAf]
 unfold oP
 rw [aW]
 by_cases h:at_≥0
 ·rw [if_pos h]
  have:decide (at_<(safe.length:Int))=decide (0<=at_/\at_<safe.length):=by rw [Bool.eq_iff_iff]; simp; omega
  rw [this]; rfl
 ·rw [if_neg h,decide_eq_false (by omega)]; rfl
def G1 (safe:List ByteArray) (at_:Int):ByteArray×Bool:=if 0<=at_/\at_<safe.length then (safe.getD at_.toNat eB,true) else (eB,false)
theorem azu {size at_:Int} {safe:List ByteArray} {pend:List W2}:BH (at_,()) ((size,()),safe,pend,())=some (((G1 safe at_).1,(G1 safe at_).2,()),()):=by
 rw [aAh]
 unfold oR G1
 rw [att]
 simp only [Option.bind_some]
 by_cases h:0<=at_/\at_<safe.length
 ·rw [decide_eq_true h,if_pos h]
  simp only [Bool.not_true,cond_false]
  rw [ap h.1,ap h.2,Nat.zero_add]; rfl
 ·rw [decide_eq_false h,if_neg h]; rfl
def sH (pend:List W2) (at_:Int):Option ByteArray:=(pend.reverse.find? fun p=>p.1==at_).map (·.2)
def fz (safe:List ByteArray) (pend:List W2) (at_:Int):ByteArray×Bool :=
 match sH pend at_ with
 | some t=>(t,true)
 | none=>G1 safe at_
theorem U8 (pend:List W2) (p:W2) (at_:Int):sH (pend++[p]) at_=if p.1=at_ then some p.2 else sH pend at_:=by
 unfold sH
 rw [List.reverse_append,List.reverse_singleton,List.singleton_append,List.find?_cons]
 by_cases h:p.1=at_
 ·simp [h]
 ·simp [h,beq_false_of_ne h]
theorem LC (size at_:Int) (safe:List ByteArray) (pend:List W2) (hl:pend.length<=1000000):∀ (k:Nat),k<=pend.length ->
  iZ (at_,(k:Int)-1,()) ((size,()),safe,pend,())=match sH (pend.take k) at_ with
   | some t=>some (.inl ((at_,t,true,()),((size,()),safe,pend,())))
   | none=>some (.inr ((at_,()),((size,()),safe,pend,())))
 | 0,h=>by
  rw [VU]
  unfold fm
  rw [bq (by omega)]
  rfl
 | k+1,h=>by
  rw [VU]
  unfold fm
  have hk:k<pend.length:=by omega
  have e0:(((k+1:Nat):Int)-1)=k:=by omega
  rw [e0,ap (by omega),ap (by omega),ap (by omega),cN,ap (by omega),ap (by omega),aQ (by omega) (by omega),LC size at_ safe pend hl k (by omega),Nat.zero_add,Int.toNat_natCast]
  have e1:pend.getD k (0,eB)=pend[k]:=by simp [List.getD,hk]
  have e2:pend.take (k+1)=pend.take k++[pend[k]]:=by rw [List.take_succ_eq_append_getElem hk]
  rw [e1,e2,U8]
  by_cases h1:pend[k].1=at_
  ·rw [if_pos h1,if_pos h1]
  ·rw [if_neg h1,if_neg h1]
theorem uA {size at_:Int} {safe:List ByteArray} {pend:List W2} (hl:pend.length<=1000000):BW (at_,()) ((size,()),safe,pend,())=some (((fz safe pend at_).1,(fz safe pend at_).2,()),()):=by
 rw [aAj]
 unfold oT fz
 rw [aQ (by omega) (by omega),LC size at_ safe pend hl pend.length (Nat.le_refl _),List.take_length]
 cases sH pend at_ with
 | some t=>rfl
 | none =>
  simp only [Option.bind_some,Sum.elim_inr]
  rw [azu]
  rfl
theorem LD {size:Int} {safe:List ByteArray} {pend:List W2}:oO () ((size,()),safe,pend,())=some ((safe.length:Int),()):=by
 rw [aAa]; rfl
theorem azv {size:Int} {safe:List ByteArray} {pend:List W2}:E7 () ((size,()),safe,pend,())=some (size,()):=by
 rw [aAc]; rfl
def Eo (size:Int) (safe:List ByteArray) (at_:Int) (t:ByteArray):Bool:=decide ((0<=at_/\at_<safe.length)/\(t.size:Int)<=size)
def aow (size:Int) (t:ByteArray):ByteArray:=t++dZ (size-t.size).toNat
theorem Bj {size at_:Int} {safe:List ByteArray} {pend:List W2} {t:ByteArray} (hd:ca size safe pend):CA (at_,t,()) ((size,()),safe,pend,()) =
  some (Eo size safe at_ t,((size,()),safe,(),(if Eo size safe at_ t=true then pend++[(at_,aow size t)] else pend),())):=by
 rw [aAA]
 unfold xg Eo
 rw [att]
 simp only [Option.bind_some]
 have h1:=hd.lo
 have h2:=hd.hi
 by_cases h:0<=at_/\at_<safe.length
 ·rw [decide_eq_true h]
  simp only [Bool.not_true,cond_false]
  rw [aW]
  by_cases hs:(t.size:Int)>size
  ·rw [if_pos hs,decide_eq_false (by omega)]; rfl
  ·rw [if_neg hs,decide_eq_true (show (0<=at_/\at_<(safe.length:Int))/\(t.size:Int)<=size from ⟨h,by omega⟩),aQ (by omega) (by omega),Gr (by omega) (by omega)]
   simp only [Option.bind_some,if_true]
   rw [ap (by rw [hE]; omega),ap (by have:=hd.few; omega)]
   rfl
 ·rw [decide_eq_false h,decide_eq_false (show ¬ ((0<=at_/\at_<(safe.length:Int))/\(t.size:Int)<=size) from fun hh=>h hh.1)]; rfl
def HC (c:Nat) (safe:List ByteArray) (p:W2):List ByteArray :=
 safe.set p.1.toNat (p.2.extract 0 c++(safe.getD p.1.toNat eB).extract c (safe.getD p.1.toNat eB).size)
def jl (c:Nat->Nat):Nat->List ByteArray->List W2->List ByteArray
 | _,safe,[]=>safe
 | k,safe,p::l=>jl c (k+1) (HC (c k) safe p) l
theorem Ey (c:Nat) (safe:List ByteArray) (p:W2):(HC c safe p).length=safe.length:=by simp [HC]
theorem LE (c:Nat->Nat):∀ (l:List W2) (k:Nat) (safe:List ByteArray),(jl c k safe l).length=safe.length
 | [],k,safe=>rfl
 | p::l,k,safe=>by simp only [jl]; rw [LE c l,Ey]
theorem aaF {size:Int} {c:Nat} {safe:List ByteArray} {p:W2} (hc:(c:Int)<=size) (hs:∀ s,s∈safe->(s.size:Int)=size) (hp:0<=p.1/\p.1<safe.length/\(p.2.size:Int)=size):∀ s,s∈HC c safe p->(s.size:Int)=size:=by
 intro s h
 rcases List.mem_or_eq_of_mem_set h with h | h
 ·exact hs s h
 ·subst h
  have h1:=hs _ (Ep (l:=safe) (i:=p.1.toNat) (d:=eB) (by omega))
  rw [ByteArray.size_append,ByteArray.size_extract,ByteArray.size_extract]
  omega
def cS (size x:Int):Int:=if size<(if 0>x then 0 else x) then size else if 0>x then 0 else x
theorem Bp {size x:Int} (h:0<=size):0<=cS size x/\cS size x<=size:=by
 unfold cS
 by_cases h1:0>x
 ·simp only [if_pos h1]; split<;>omega
 ·simp only [if_neg h1]; split<;>omega
theorem ca.lay {size:Int} {safe:List ByteArray} {pend:List W2} (h:ca size safe pend) {c:Nat} {p:W2} (hc:(c:Int)<=size) (hp:p∈pend):ca size (HC c safe p) pend :=
 ⟨h.lo,h.hi,by rw [Ey]; exact h.n2,aaF hc h.sz (h.pd p hp),fun q hq=>by rw [Ey]; exact h.pd q hq,h.few⟩
theorem R6 {α:Type} {size x:Int} {safe:List ByteArray} {pend:List W2} (h:ca size safe pend) {k:Nat} (hk:k<pend.length) (K:List ByteArray->Option α) :
    (cond (decide (0<=if size<if 0>x then 0 else x then size else if 0>x then 0 else x))
     (cond (decide   ((if size<if 0>x then 0 else x then size else if 0>x then 0 else x)<=    (↑(pend.getD (0+k) (0,eB)).snd.size:Int)))
      (cond (decide (0<=(pend.getD (0+k) (0,eB)).fst))
       (cond (decide ((pend.getD (0+k) (0,eB)).fst<(↑safe.length:Int)))
        (cond (decide (0<=if size<if 0>x then 0 else x then size else if 0>x then 0 else x))
         (cond (decide   ((if size<if 0>x then 0 else x then size else if 0>x then 0 else x)<=    (↑(safe.getD (0+(pend.getD (0+k) (0,eB)).fst.toNat) eB).size:Int)))
          (cond (decide   (((pend.getD (0 + k) (0, eB)).snd.extract 0 (if size < if 0 > x then 0 else x then size else if 0 > x then 0 else x).toNat).size +
             ((safe.getD (0+(pend.getD (0+k) (0,eB)).fst.toNat) eB).extract (if size<if 0>x then 0 else x then size else if 0>x then 0 else x).toNat (safe.getD (0+(pend.getD (0+k) (0,eB)).fst.toNat) eB).size).size<=9223372036854775807))
           (cond (decide (0<=(pend.getD (0+k) (0,eB)).fst))
            (cond (decide ((pend.getD (0+k) (0,eB)).fst<(↑safe.length:Int)))
             (K (safe.set (0 + (pend.getD (0 + k) (0,eB)).fst.toNat) ((pend.getD (0 + k) (0,eB)).snd.extract 0 (if size < if 0 > x then 0 else x then size else if 0 > x then 0 else x).toNat ++
               (safe.getD (0+(pend.getD (0+k) (0,eB)).fst.toNat) eB).extract (if size<if 0>x then 0 else x then size else if 0>x then 0 else x).toNat (safe.getD (0+(pend.getD (0+k) (0,eB)).fst.toNat) eB).size)))
             none) none) none) none) none) none) none) none) none) =
    K (HC (cS size x).toNat safe pend[k]):=by
  have hp:=h.pd pend[k] (List.getElem_mem hk)
  have hlo:=h.lo
  have hhi:=h.hi
  have hc:=Bp (size:=size) (x:=x) (by omega)
  have e1:pend.getD (0+k) (0,eB)=pend[k]:=by simp [List.getD,hk]
  have e2:(if size<if 0>x then 0 else x then size else if 0>x then 0 else x)=cS size x:=rfl
  have hs:=h.sz _ (Ep (l:=safe) (i:=pend[k].1.toNat) (d:=eB) (by omega))
  rw [e1,e2,Nat.zero_add]
  rw [ap hc.1,ap (by omega),ap hp.1,ap hp.2.1,ap hc.1,ap (by omega),ap (by rw [ByteArray.size_extract,ByteArray.size_extract]; omega),ap hp.1,ap hp.2.1]
  rfl
theorem JL {size:Int} {pend:List W2}:∀ (d k:Nat) (safe:List ByteArray),ca size safe pend->k+d=pend.length ->
  fX ((),(pend.length:Int),(k:Int),()) ((size,()),(),safe,pend,())=some ((),((size,()),(),jl (fun _=>(cS size size).toNat) k safe (pend.drop k),pend,()))
 | 0,k,safe,h,hk=>by
  rw [P7]
  unfold eG
  rw [bq (by omega),List.drop_of_length_le (by omega)]
  rfl
 | d+1,k,safe,h,hk=>by
  rw [P7]
  unfold eG
  have hkl:k<pend.length:=by omega
  have hf:=h.few
  have hlo:=h.lo
  rw [ap (by omega),ap (by omega),ap (by omega),aAl]
  have e0:(oU (k:Int) size safe pend some).map (fun r=>(r.1,()))=some (size,()):=rfl
  rw [e0]
  simp only [Option.bind_some,Int.toNat_natCast]
  rw [R6 h hkl fun z=>fX ((),(pend.length:Int),IntKind.i64.wrap ((k:Int)+1),()) ((size,()),(),z,pend,())]
  have hc:=Bp (size:=size) (x:=size) (by omega)
  rw [aQ (by omega) (by omega),show ((k:Int)+1)=((k+1:Nat):Int) by omega,JL d (k+1) _ (h.lay (by omega) (List.getElem_mem hkl)) (by omega),List.drop_eq_getElem_cons hkl]
  rfl
theorem aoJ {size:Int} {safe:List ByteArray} {pend:List W2} (h:ca size safe pend):Fc () ((size,()),safe,pend,())=some ((),((size,()),jl (fun _=>(cS size size).toNat) 0 safe pend,(),[],())):=by
 rw [aAu]
 unfold xe
 rw [atP]
 unfold p6
 have:=JL pend.length 0 safe h (by omega)
 rw [show ((0:Nat):Int)=0 from rfl] at this
 rw [this]
 rfl
theorem JM {size:Int} {pend:List W2} {keep:List Int}:∀ (d k:Nat) (safe:List ByteArray),ca size safe pend->k+d=pend.length ->
  fY ((),(pend.length:Int),(k:Int),()) ((size,()),(keep,()),safe,pend,())=some ((),((size,()),(keep,()),jl (fun k=>(cS size (keep.getD k 0)).toNat) k safe (pend.drop k),pend,()))
 | 0,k,safe,h,hk=>by
  rw [P9]
  unfold eH
  rw [bq (by omega),List.drop_of_length_le (by omega)]
  rfl
 | d+1,k,safe,h,hk=>by
  rw [P9]
  unfold eH
  have hkl:k<pend.length:=by omega
  have hf:=h.few
  have hlo:=h.lo
  rw [ap (by omega),ap (by omega),ap (by omega),aAn]
  have e0:(nd (k:Int) keep some).map (fun r=>(r.1,()))=some (keep.getD k 0,()):=by
   unfold nd
   rw [aW]
   by_cases hkk:(k:Int)<keep.length
   ·rw [if_pos hkk,ap (by omega),ap (by omega),Int.toNat_natCast]; rfl
   ·rw [if_neg hkk]
    have:keep.getD k 0=0:=by rw [List.getD_eq_getElem?_getD,List.getElem?_eq_none (by omega)]; rfl
    rw [this]; rfl
  rw [e0]
  simp only [Option.bind_some,Int.toNat_natCast]
  rw [R6 h hkl fun z=>fY ((),(pend.length:Int),IntKind.i64.wrap ((k:Int)+1),()) ((size,()),(keep,()),z,pend,())]
  have hc:=Bp (size:=size) (x:=keep.getD k 0) (by omega)
  rw [aQ (by omega) (by omega),show ((k:Int)+1)=((k+1:Nat):Int) by omega,JM d (k+1) _ (h.lay (by omega) (List.getElem_mem hkl)) (by omega),List.drop_eq_getElem_cons hkl]
  rfl
theorem aan {size:Int} {safe:List ByteArray} {pend:List W2} {keep:List Int} (h:ca size safe pend):uP (keep,()) ((size,()),safe,pend,())=some ((),((size,()),jl (fun k=>(cS size (keep.getD k 0)).toNat) 0 safe pend,(),[],())):=by
 rw [aAx]
 unfold xf
 rw [atR]
 unfold p9
 have:=JM (keep:=keep) pend.length 0 safe h (by omega)
 rw [show ((0:Nat):Int)=0 from rfl] at this
 rw [this]
 rfl
abbrev aov:=Int×Int×ByteArray×List Int
def okN (n size:Int):Prop:=1<=n/\n<=256/\32<=size/\size<=512
instance (n size:Int):Decidable (okN n size):=by unfold okN; exact inferInstance
theorem R7 {n size:Int} (h:okN n size):∀ (d k:Nat) (s:Int),(k:Int)+d=n ->
  gD (size,n,(k:Int),()) (List.replicate k (dZ size.toNat),(s,()),())=some ((),(List.replicate n.toNat (dZ size.toNat),(s,()),()))
 | 0,k,s,hk=>by
  rw [Qb]
  unfold eI
  rw [bq (by omega),show n.toNat=k by omega]
 | d+1,k,s,hk=>by
  obtain ⟨h1,h2,h3,h4⟩:=h
  rw [Qb]
  unfold eI
  rw [ap (by omega),Gr (by omega) (by omega)]
  simp only [Option.bind_some]
  rw [ap (by rw [List.length_replicate]; omega),aQ (by omega) (by omega),List.nil_append,show ((k:Int)+1)=((k+1:Nat):Int) by omega,← List.replicate_succ']
  exact R7 ⟨h1,h2,h3,h4⟩ d (k+1) s (by omega)
theorem Lf {n size:Int} (h:okN n size):qk (n,size,()) ()=some (.inr ((),((size,()),List.replicate n.toNat (dZ size.toNat),[],()))):=by
 have h':=h
 obtain ⟨h1,h2,h3,h4⟩:=h
 rw [atS]
 unfold qj
 rw [bq (by omega),bq (by omega),bq (by omega),bq (by omega)]
 have:=R7 h' n.toNat 0 size (by omega)
 rw [show ((0:Nat):Int)=0 from rfl,show List.replicate 0 (dZ size.toNat)=[] from rfl] at this
 rw [this]
 rfl
theorem R8 {size:Int} {c:Nat->Nat} (hc:∀ k,(c k:Int)<=size):∀ (l:List W2) (k:Nat) (safe:List ByteArray),
  (∀ s,s∈safe->(s.size:Int)=size)->(∀ p,p∈l->0<=p.1/\p.1<safe.length/\(p.2.size:Int)=size)->∀ s,s∈jl c k safe l->(s.size:Int)=size
 | [],k,safe,h,_,s,hs=>h s hs
 | p::l,k,safe,h,hp,s,hs=>by
  refine R8 hc l (k+1) (HC (c k) safe p) (aaF (hc k) h (hp p List.mem_cons_self)) ?_ s hs
  intro q hq
  rw [Ey]
  exact hp q (List.mem_cons_of_mem _ hq)
theorem ca.keep {size:Int} {safe:List ByteArray} {pend:List W2} (h:ca size safe pend) {c:Nat->Nat} (hc:∀ k,(c k:Int)<=size):ca size (jl c 0 safe pend) [] :=
 ⟨h.lo,h.hi,by rw [LE]; exact h.n2,R8 hc pend 0 safe h.sz h.pd,fun p hp=>(by cases hp),by simp⟩
theorem ca.size0 {size:Int} {safe:List ByteArray} {pend:List W2} (h:ca size safe pend):0<=size:=by have:=h.lo; omega
theorem aoK {b:ByteArray} {c:Nat} (h:b.size=c):b.extract 0 c=b:=by subst h; exact ByteArray.extract_zero_size
theorem ak4 {b:ByteArray} {c:Nat} (h:b.size<=c):b.extract c b.size=eB:=by
 rw [← ByteArray.size_eq_zero_iff,ByteArray.size_extract]
 omega
theorem JB (p:W2) (l:List W2) (at_:Int):sH (p::l) at_=match sH l at_ with | some t=>some t | none=>if p.1=at_ then some p.2 else none:=by
 unfold sH
 rw [List.reverse_cons,List.find?_append]
 cases l.reverse.find? fun q=>q.1==at_ with
 | some q=>rfl
 | none =>
  by_cases h:p.1=at_
  ·simp [h]
  ·simp [h,beq_false_of_ne h]
theorem JN {size:Int} (h:0<=size):cS size size=size:=by
 unfold cS
 rw [if_neg (show ¬ (0:Int)>size by omega),if_neg (show ¬ size<size by omega)]
def xD (size:Int) (safe:List ByteArray) (pend:List W2):List ByteArray:=jl (fun _=>(cS size size).toNat) 0 safe pend
theorem G7 {c c':Nat->Nat}:∀ (l:List W2) (k:Nat) (safe:List ByteArray),(∀ j,k<=j->j<k+l.length->c j=c' j)->jl c k safe l=jl c' k safe l
 | [],_,_,_=>rfl
 | p::l,k,safe,h=>by
  show jl c (k+1) (HC (c k) safe p) l=jl c' (k+1) (HC (c' k) safe p) l
  rw [List.length_cons] at h
  rw [h k (Nat.le_refl _) (by omega)]
  exact G7 l (k+1) _ fun j h1 h2=>h j (by omega) (by omega)
theorem ab8 {size:Int} {safe:List ByteArray} {pend:List W2}:jl (fun k=>(cS size ((List.replicate pend.length size).getD k 0)).toNat) 0 safe pend=xD size safe pend:=by
 refine G7 _ _ _ fun j _ h=>?_
 rw [List.getD_eq_getElem?_getD,List.getElem?_replicate,if_pos (by omega)]
 rfl
def bs (s:ByteArray):List UInt8:=s.data.toList
theorem cB (s:ByteArray):(bs s).length=s.size:=Array.length_toList
theorem gA (a b:ByteArray):bs (a++b)=bs a++bs b:=by simp [bs,ByteArray.data_append]
theorem di (s:ByteArray) (a b:Nat):bs (s.extract a b)=((bs s).drop a).take (b-a):=by
 simp [bs,ByteArray.data_extract,List.extract_eq_take_drop]
theorem dF {a b:ByteArray} (h:bs a=bs b):a=b:=by
 cases a; cases b; simp only [bs] at h; rw [Array.toList_inj.1 h]
theorem ug (l:List UInt8):bs ⟨l.toArray⟩=l:=rfl
theorem zt (n:Nat):bs (dZ n)=List.replicate n 0:=rfl
theorem pb (l:List Int):bs (Go.strOfNums l)=l.map fun n=>UInt8.ofNat n.toNat:=by
 simp [bs,Go.strOfNums]
def nb (l:List UInt8):Nat:=l.foldl (fun n b=>n*256+b.toNat) 0
theorem Bt (l:List UInt8) (b:UInt8):nb (l++[b])=nb l*256+b.toNat:=by simp [nb]
theorem R1:∀ (n:Nat) (l:List UInt8),l.length=n->nb l<256 ^ n
 | 0,l,h=>by rw [List.eq_nil_of_length_eq_zero h]; decide
 | n+1,l,h=>by
  have hne:l≠[]:=by intro e; rw [e] at h; cases h
  rw [← List.dropLast_concat_getLast hne,Bt]
  have h1:=R1 n l.dropLast (by simp [h])
  have h2:=(l.getLast hne).toNat_lt
  rw [Nat.pow_succ]
  omega
theorem U9:∀ (n:Nat) (l l':List UInt8),l.length=n->l'.length=n->nb l=nb l'->l=l'
 | 0,l,l',h,h',_=>by rw [List.eq_nil_of_length_eq_zero h,List.eq_nil_of_length_eq_zero h']
 | n+1,l,l',h,h',e=>by
  have hne:l≠[]:=by intro e; rw [e] at h; cases h
  have hne':l'≠[]:=by intro e; rw [e] at h'; cases h'
  rw [← List.dropLast_concat_getLast hne,← List.dropLast_concat_getLast hne',Bt,Bt] at e
  have h1:=(l.getLast hne).toNat_lt
  have h2:=(l'.getLast hne').toNat_lt
  rw [← List.dropLast_concat_getLast hne,← List.dropLast_concat_getLast hne',U9 n l.dropLast l'.dropLast (by simp [h]) (by simp [h']) (by omega),show l.getLast hne=l'.getLast hne' from UInt8.toNat_inj.1 (by omega)]
def ig (n:Nat):List UInt8:=[n / 72057594037927936,n / 281474976710656,n / 1099511627776,n / 4294967296,n / 16777216,n / 65536,n / 256,n].map UInt8.ofNat
theorem sK (n:Nat):(ig n).length=8:=rfl
theorem ak5 {n:Nat} (h:n<18446744073709551616):nb (ig n)=n:=by
 simp only [ig,nb,List.map_cons,List.map_nil,List.foldl_cons,List.foldl_nil,UInt8.toNat_ofNat']
 omega
def Gp (n:Nat):ByteArray:=⟨(ig n).toArray⟩
theorem fg (n:Nat):(Gp n).size=8:=rfl
theorem P2 (n:Int):IntKind.u8.wrap n=n % 256:=by simp [IntKind.wrap,IntKind.bits,IntKind.signed]
theorem aoL {n:Int} (h0:0<=n) (h1:n<18446744073709551616):lp (n,()) ()=some (Gp n.toNat,()):=by
 rw [amw]
 unfold mj
 simp only [Option.map_some,Option.some.injEq,Prod.mk.injEq,and_true]
 apply dF
 rw [pb]
 simp only [Gp,ug,ig,List.map_cons,List.map_nil,P2,Int.fdiv_eq_ediv_of_nonneg _ (by decide:(0:Int)<=72057594037927936),Int.fdiv_eq_ediv_of_nonneg _ (by decide:(0:Int)<=281474976710656),Int.fdiv_eq_ediv_of_nonneg _ (by decide:(0:Int)<=1099511627776),Int.fdiv_eq_ediv_of_nonneg _ (by decide:(0:Int)<=4294967296),Int.fdiv_eq_ediv_of_nonneg _ (by decide:(0:Int)<=16777216),Int.fdiv_eq_ediv_of_nonneg _ (by decide:(0:Int)<=65536),Int.fdiv_eq_ediv_of_nonneg _ (by decide:(0:Int)<=256),Int.fdiv_eq_ediv_of_nonneg _ (by decide:(0:Int)<=1)]
 have hb:∀ (a:Int) (b:Nat),a.toNat % 256=b % 256->UInt8.ofNat a.toNat=UInt8.ofNat b:=by
  intro a b hab
  apply UInt8.toNat_inj.1
  rw [UInt8.toNat_ofNat',UInt8.toNat_ofNat']
  exact hab
 congr 1
 ·exact hb _ _ (by omega)
 congr 1
 ·exact hb _ _ (by omega)
 congr 1
 ·exact hb _ _ (by omega)
 congr 1
 ·exact hb _ _ (by omega)
 congr 1
 ·exact hb _ _ (by omega)
 congr 1
 ·exact hb _ _ (by omega)
 congr 1
 ·exact hb _ _ (by omega)
 congr 1
 ·exact hb _ _ (by omega)
theorem Eu (s:ByteArray) (i:Nat):dM s (i:Int)=((bs s).getD i 0).toNat:=rfl
theorem aoM {n b:Nat} (hn:n<18446744073709551616 / 256) (hb:b<256):IntKind.u64.wrap (((BitVec.ofInt 64 (IntKind.u64.wrap ((n:Int)*256)) ||| BitVec.ofInt 64 (IntKind.u64.wrap (b:Int))).toNat:Nat):Int)=((n*256+b:Nat):Int):=by
 rw [ff (n:=(n:Int)*256) (by omega) (by omega),ff (n:=(b:Int)) (by omega) (by omega),show ((n:Int)*256)=((n*256:Nat):Int) by omega,BitVec.ofInt_natCast,BitVec.ofInt_natCast,BitVec.toNat_or,BitVec.toNat_ofNat,BitVec.toNat_ofNat,Nat.mod_eq_of_lt (by omega),Nat.mod_eq_of_lt (by omega)]
 have:=Nat.two_pow_add_eq_or_of_lt (show b<2 ^ 8 by omega) n
 rw [show n*256=2 ^ 8*n by omega,← this,ff (by omega) (by omega)]
theorem G8 (s:ByteArray) (hs:s.size<=8):∀ (d i:Nat),i+d=s.size ->
  fb (s,(nb ((bs s).take i):Int),(s.size:Int),(i:Int),()) ()=some (((nb (bs s):Int),()),())
 | 0,i,h=>by
  rw [K2]
  unfold dB
  rw [bq (by omega),List.take_of_length_le (by rw [cB]; omega)]
 | d+1,i,h=>by
  rw [K2]
  unfold dB
  have hi:i<(bs s).length:=by rw [cB]; omega
  have hlt:=R1 i ((bs s).take i) (by rw [List.length_take]; omega)
  have hp:256 ^ i<=256 ^ 7:=Nat.pow_le_pow_right (by decide) (by omega)
  have h7:(256:Nat) ^ 7=72057594037927936:=by decide
  have hb:((bs s).getD i 0).toNat<256:=UInt8.toNat_lt _
  rw [ap (by omega),ap (by omega),ap (by omega),Eu,aoM (by omega) hb,aQ (by omega) (by omega),show ((i:Int)+1)=((i+1:Nat):Int) by omega]
  have e:nb ((bs s).take i)*256+((bs s).getD i 0).toNat=nb ((bs s).take (i+1)):=by
   rw [List.take_succ_eq_append_getElem hi,Bt,List.getD_eq_getElem?_getD,List.getElem?_eq_getElem hi,Option.getD_some]
  rw [e]
  exact G8 s hs d (i+1) (by omega)
theorem JO {s:ByteArray} (hs:s.size<=8):jy (s,()) ()=some ((nb (bs s):Int),()):=by
 rw [amx]
 unfold mq
 have:=G8 s hs s.size 0 (by omega)
 rw [List.take_zero,show nb []=0 from rfl] at this
 rw [show ((0:Nat):Int)=0 from rfl] at this
 rw [this]
 rfl
def R3 (n:Int) (t:ByteArray) (size:Int):Prop:=32<=size/\size<=512/\n≠0/\(t.size:Int)<=size-18
instance (n:Int) (t:ByteArray) (size:Int):Decidable (R3 n t size):=by unfold R3; exact inferInstance
def aoE (k:Nat):ByteArray:=⟨#[UInt8.ofNat (k / 256),UInt8.ofNat k]⟩
def d8 (n:Int) (t:ByteArray) (size:Int):ByteArray:=Gp n.toNat++aoE t.size++t++dZ (size-18-t.size).toNat++Gp n.toNat
theorem iP (k:Nat):(aoE k).size=2:=rfl
theorem ic {n:Int} {t:ByteArray} {size:Int} (h:R3 n t size):((d8 n t size).size:Int)=size:=by
 obtain ⟨h1,h2,h3,h4⟩:=h
 unfold d8
 simp only [ByteArray.size_append,fg,iP,hE]
 omega
theorem aaG {n:Int}:dX (n,()) ()=some (decide (32<=n/\n<=512),()):=by
 rw [amv]
 unfold mi
 simp only [aW]
 by_cases h:n≥32
 ·rw [if_pos h,show decide (32<=n/\n<=512)=decide (n<=512) by rw [Bool.eq_iff_iff]; simp; omega]
 ·rw [if_neg h,decide_eq_false (show ¬ (32<=n/\n<=512) by omega)]
theorem ak6 {k:Nat} (h:k<=494):Go.strOfNums ([]++[IntKind.u8.wrap ((k:Int).fdiv 256)]++[IntKind.u8.wrap (k:Int)])=aoE k:=by
 apply dF
 rw [pb]
 have hb:∀ (a:Int) (b:Nat),a.toNat % 256=b % 256->UInt8.ofNat a.toNat=UInt8.ofNat b:=by
  intro a b hab
  apply UInt8.toNat_inj.1
  rw [UInt8.toNat_ofNat',UInt8.toNat_ofNat']
  exact hab
 show [_,_]=[_,_]
 rw [P2,P2,Int.fdiv_eq_ediv_of_nonneg _ (by decide)]
 congr 1
 ·exact hb _ _ (by omega)
 congr 1
 ·exact hb _ _ (by omega)
def uD (n:Int) (t:ByteArray) (size:Int):ByteArray×Bool:=if R3 n t size then (d8 n t size,true) else (eB,false)
theorem aoN {n:Int} {t:ByteArray} {size:Int} (h0:0<=n) (h1:n<18446744073709551616):mu (n,t,size,()) ()=some (((uD n t size).1,(uD n t size).2,()),()):=by
 rw [amy]
 unfold mr
 rw [aaG]
 simp only [Option.bind_some]
 unfold uD
 by_cases hs:32<=size/\size<=512
 ·rw [decide_eq_true hs]
  simp only [Bool.not_true,cond_false,cN,aW]
  by_cases hn:n=0
  ·rw [if_pos hn,if_neg (fun h=>h.2.2.1 hn)]
  ·rw [if_neg hn,aQ (n:=size-18) (by omega) (by omega)]
   by_cases ht:(t.size:Int)>size-18
   ·rw [if_pos ht,if_neg (fun h=>by have:=h.2.2.2; omega)]
   ·have hk:t.size<=494:=by omega
    have hz:(dZ (size-18-t.size).toNat).size<=512:=by rw [hE]; omega
    rw [if_neg ht,aoL h0 h1,ak6 hk,aQ (n:=size-18-(t.size:Int)) (by omega) (by omega),Gr (by omega) (by omega)]
    simp only [Option.bind_some]
    rw [if_pos (by rw [fg,iP]; omega),if_pos (by rw [ByteArray.size_append,fg,iP]; omega),if_pos (by simp only [ByteArray.size_append,fg,iP]; omega),if_pos (by simp only [ByteArray.size_append,fg,iP]; omega),if_pos ⟨hs.1,hs.2,hn,by omega⟩]
    rfl
 ·rw [decide_eq_false hs,if_neg (fun h=>hs ⟨h.1,h.2.1⟩)]; rfl
def okU (s:ByteArray):Prop:=32<=s.size/\s.size<=512/\(bs s).take 8=(bs s).drop (s.size-8)/\nb ((bs s).take 8)≠0/\nb (((bs s).drop 8).take 2)<=s.size-18
instance (s:ByteArray):Decidable (okU s):=by unfold okU; exact inferInstance
def cI (s:ByteArray):Int×ByteArray×Bool:=if okU s then ((nb ((bs s).take 8):Int),s.extract 10 (10+nb (((bs s).drop 8).take 2)),true) else (0,eB,false)
theorem aaH (s:ByteArray):0<=(cI s).1/\(cI s).1<18446744073709551616:=by
 unfold cI
 split
 ·rename_i h
  have:=R1 8 ((bs s).take 8) (by rw [List.length_take,cB]; have:=h.1; omega)
  have h8:(256:Nat) ^ 8=18446744073709551616:=by decide
  dsimp only
  omega
 ·exact ⟨Int.le_refl _,by decide⟩
theorem LF {s:ByteArray}:jz (s,()) ()=some (((cI s).1,(cI s).2.1,(cI s).2.2,()),()):=by
 rw [amz]
 unfold mv cI
 rw [aaG]
 simp only [Option.bind_some]
 by_cases hs:32<=(s.size:Int)/\(s.size:Int)<=512
 ·rw [decide_eq_true hs]
  simp only [Bool.not_true,cond_false]
  have b8:bs (s.extract 0 8)=(bs s).take 8:=by rw [di,List.drop_zero]
  have b2:bs (s.extract 8 10)=((bs s).drop 8).take 2:=by rw [di]
  have bl:bs (s.extract (s.size-8) s.size)=(bs s).drop (s.size-8):=by
   rw [di,List.take_of_length_le]
   rw [List.length_drop,cB]; omega
  have e8:((s.size:Int)-8).toNat=s.size-8:=by omega
  have l2:=R1 2 (((bs s).drop 8).take 2) (by rw [List.length_take,List.length_drop,cB]; omega)
  have h2:(256:Nat) ^ 2=65536:=by decide
  rw [ap (by omega),JO (s:=s.extract 0 8) (by rw [ByteArray.size_extract]; omega)]
  simp only [Option.bind_some]
  rw [ap (by omega),JO (s:=s.extract 8 10) (by rw [ByteArray.size_extract]; omega)]
  simp only [Option.bind_some]
  rw [aQ (n:=(s.size:Int)-8) (by omega) (by omega),aQ (n:=(s.size:Int)-18) (by omega) (by omega),e8,b8,b2,aQ (n:=(nb (((bs s).drop 8).take 2):Int)) (by omega) (by omega),aQ (n:=10+(nb (((bs s).drop 8).take 2):Int)) (by omega) (by omega),cN]
  by_cases hn:(nb ((bs s).take 8):Int)=0
  ·rw [if_pos hn,if_neg (fun h=>h.2.2.2.1 (by omega))]
  ·rw [if_neg hn,ap (by omega),ap (by omega),JO (s:=s.extract (s.size-8) s.size) (by rw [ByteArray.size_extract]; omega)]
   simp only [Option.bind_some]
   rw [bl,En]
   by_cases he:(nb ((bs s).take 8):Int)=(nb ((bs s).drop (s.size-8)):Int)
   ·have he':(bs s).take 8=(bs s).drop (s.size-8):=U9 8 _ _ (by rw [List.length_take,cB]; omega) (by rw [List.length_drop,cB]; omega) (by omega)
    rw [if_pos he,aW]
    by_cases hl:(nb (((bs s).drop 8).take 2):Int)>(s.size:Int)-18
    ·rw [if_pos hl,if_neg (fun h=>by have:=h.2.2.2.2; omega)]
    ·rw [if_neg hl,ap (by omega),ap (by omega),if_pos ⟨by omega,by omega,he',by omega,by omega⟩,show (10+(nb (((bs s).drop 8).take 2):Int)).toNat=10+nb (((bs s).drop 8).take 2) by omega]
   ·rw [if_neg he,if_neg (fun h=>he (by rw [h.2.2.1]))]
 ·rw [decide_eq_false hs,if_neg (fun h=>hs ⟨by have:=h.1; omega,by have:=h.2.1; omega⟩)]; rfl
theorem aoG:∀ (n:Nat) (l:List UInt8),l.length=n->(nb l=0↔l=List.replicate n 0):=by
 intro n l h
 have h0:∀ n:Nat,nb (List.replicate n 0)=0:=by
  intro n
  induction n with
  | zero=>rfl
  | succ n ih=>rw [List.replicate_succ',Bt,ih]; rfl
 constructor
 ·intro e
  exact U9 n _ _ h (by rw [List.length_replicate]) (by rw [e,h0])
 ·intro e
  rw [e,h0]
theorem ak2 (l:List UInt8) (h:10<=l.length):nb ((l.drop 8).take 2)=256*(l.getD 8 0).toNat+(l.getD 9 0).toNat:=by
 have h8:8<l.length:=by omega
 have h9:9<l.length:=by omega
 rw [List.drop_eq_getElem_cons h8,List.drop_eq_getElem_cons h9]
 simp only [List.take_succ_cons,List.take_zero,nb,List.foldl_cons,List.foldl_nil,List.getD_eq_getElem?_getD,List.getElem?_eq_getElem h8,List.getElem?_eq_getElem h9,Option.getD_some]
 omega
theorem Ez (n:Int) (t:ByteArray) (size:Int):bs (d8 n t size)=ig n.toNat++([UInt8.ofNat (t.size / 256),UInt8.ofNat t.size]++(bs t++(List.replicate (size-18-t.size).toNat 0++ig n.toNat))):=by
 unfold d8
 simp only [gA,zt]
 show ((((ig n.toNat++[UInt8.ofNat (t.size / 256),UInt8.ofNat t.size])++_)++_)++ig n.toNat)=_
 simp only [List.append_assoc]
theorem JP (n:Int) (t:ByteArray) (size:Int):(bs (d8 n t size)).take 8=ig n.toNat:=by
 rw [Ez,List.take_append_of_le_length (by rw [sK]; omega),List.take_of_length_le (by rw [sK]; omega)]
theorem JQ {n:Int} {t:ByteArray} {size:Int} (h:R3 n t size):(bs (d8 n t size)).drop ((d8 n t size).size-8)=ig n.toNat:=by
 have hs:=ic h
 obtain ⟨h1,h2,h3,h4⟩:=h
 have:bs (d8 n t size)=(ig n.toNat++([UInt8.ofNat (t.size / 256),UInt8.ofNat t.size]++(bs t++List.replicate (size-18-t.size).toNat 0)))++ig n.toNat:=by
  rw [Ez]; simp only [List.append_assoc]
 rw [this,List.drop_left']
 simp only [List.length_append,sK,List.length_cons,List.length_nil,cB,List.length_replicate]
 omega
theorem LG {n:Int} {t:ByteArray} {size:Int} (h:R3 n t size) (h0:0<=n) (h1:n<18446744073709551616):cI (d8 n t size)=(n,t,true):=by
 have hs:=ic h
 have hh:=JP n t size
 have ht:=JQ h
 obtain ⟨k1,k2,k3,k4⟩:=h
 have hn:nb (ig n.toNat)=n.toNat:=ak5 (by omega)
 have h2:((bs (d8 n t size)).drop 8).take 2=[UInt8.ofNat (t.size / 256),UInt8.ofNat t.size]:=by
  rw [Ez,List.drop_left' (sK _)]
  rfl
 have h2n:nb [UInt8.ofNat (t.size / 256),UInt8.ofNat t.size]=t.size:=by
  simp only [nb,List.foldl_cons,List.foldl_nil,UInt8.toNat_ofNat']
  omega
 have ho:okU (d8 n t size):=⟨by omega,by omega,by rw [hh,ht],by rw [hh,hn]; omega,by rw [h2,h2n]; omega⟩
 unfold cI
 rw [if_pos ho,hh,hn,h2,h2n]
 have he:(d8 n t size).extract 10 (10+t.size)=t:=by
  apply dF
  rw [di,Ez,show (10:Nat)=8+2 by rfl,← List.drop_drop,List.drop_left' (sK _)]
  show List.take _ (bs t++_)=_
  rw [List.take_left' (by rw [cB]; omega)]
 rw [he,show ((n.toNat:Nat):Int)=n by omega]
structure aoO (size:Int) (s:ByteArray) (n:Int) (t:ByteArray):Prop where
 lo:32<=size
 hi:size<=512
 sz:(s.size:Int)=size
 n0:0<=n
 n1:n<18446744073709551616
 head:(bs s).take 8=ig n.toNat
 tail:(bs s).drop (s.size-8)=ig n.toNat
 says:cI s=(if n=0 then (0,eB,false) else (n,t,true))
theorem Va {n:Int} {t:ByteArray} {size:Int} (h:R3 n t size) (h0:0<=n) (h1:n<18446744073709551616):aoO size (d8 n t size) n t :=
 ⟨h.1,h.2.1,ic h,h0,h1,JP n t size,JQ h,by rw [if_neg h.2.2.1]; exact LG h h0 h1⟩
theorem ace {size:Int} (lo:32<=size) (hi:size<=512) (t:ByteArray):aoO size (dZ size.toNat) 0 t:=by
 have e8:ig (0:Int).toNat=List.replicate 8 0:=rfl
 refine ⟨lo,hi,by rw [hE]; omega,Int.le_refl _,by decide,?_,?_,?_⟩
 ·rw [zt,List.take_replicate,Nat.min_eq_left (by omega),e8]
 ·rw [zt,hE,List.drop_replicate,show size.toNat-(size.toNat-8)=8 by omega,e8]
 ·unfold cI
  rw [if_neg,if_pos rfl]
  intro h
  apply h.2.2.2.1
  rw [zt,List.take_replicate,Nat.min_eq_left (by omega)]
  rfl
def gC (a b:Int) (s t:ByteArray):Int×Int×ByteArray :=
 if (cI t).2.2=true/\((cI s).2.2=false∨(cI t).1>(cI s).1) then (b,(cI t).1,(cI t).2.1)
 else if (cI s).2.2=true then (a,(cI s).1,(cI s).2.1) else (b,0,eB)
theorem Ev (a b:Int) (s t:ByteArray):0<=(gC a b s t).2.1/\(gC a b s t).2.1<18446744073709551616:=by
 unfold gC
 split
 ·exact aaH t
 ·split
  ·exact aaH s
  ·exact ⟨Int.le_refl 0,show (0:Int)<18446744073709551616 by decide⟩
section
variable {size:Int} {S:List ByteArray} {P:List W2}
def dm (S:List ByteArray) (P:List W2) (a b:Int):Int×Int×ByteArray:=gC a b (fz S P a).1 (fz S P b).1
theorem R9 {a b:Int} (hP:P.length<=1000000):dC (a,b,()) ((size,()),S,P,())=some (((dm S P a b).1,(dm S P a b).2.1,(dm S P a b).2.2,()),()):=by
 rw [amA]
 unfold iF dm gC
 rw [uA hP,uA hP]
 simp only [Option.bind_some]
 rw [LF,LF]
 simp only [Option.bind_some]
 cases h1:(cI (fz S P b).1).2.2<;>cases h2:(cI (fz S P a).1).2.2<;>simp [aW]
 split<;>simp_all
theorem azw {a b:Int} (hP:P.length<=1000000):lu (a,b,()) ((size,()),S,P,())=some (((dm S P a b).2.1,(dm S P a b).2.2,()),()):=by
 rw [amB]
 unfold iG
 rw [R9 hP]
 rfl
def sJ (size:Int) (S:List ByteArray) (P:List W2) (a b:Int) (t:ByteArray):Option W2 :=
 if (a≠b/\0<=a/\0<=b/\a<S.length/\b<S.length)/\(dm S P a b).2.1≠18446744073709551615/\R3 ((dm S P a b).2.1+1) t size then
  some (if (dm S P a b).1=a then b else a,d8 ((dm S P a b).2.1+1) t size) else none
theorem Ew {t:ByteArray} (h:(t.size:Int)=size):aow size t=t:=by
 unfold aow
 rw [show (size-t.size).toNat=0 by omega]
 apply dF
 rw [gA,zt]
 simp
theorem aoP {a b:Int} {t:ByteArray} (hd:ca size S P):my (a,b,t,()) ((size,()),S,P,()) =
  some ((sJ size S P a b t).isSome,((size,()),S,(),P++(sJ size S P a b t).toList,())):=by
 rw [amC]
 unfold mw sJ
 have hP:=hd.few
 have hnone:∀ {α:Type} (x:α),(some (false,((size,()),S,(),P,())):Option _)=some ((none:Option W2).isSome,((size,()),S,(),P++(none:Option W2).toList,())):=by intro α x; simp
 simp only [cN,aW]
 by_cases h1:a=b
 ·rw [if_pos h1,if_neg (fun h=>h.1.1 h1)]; simp
 rw [if_neg h1]
 by_cases h2:a<0
 ·rw [if_pos h2,if_neg (fun h=>by have:=h.1.2.1; omega)]; simp
 rw [if_neg h2]
 by_cases h3:b<0
 ·rw [if_pos h3,if_neg (fun h=>by have:=h.1.2.2.1; omega)]; simp
 rw [if_neg h3,LD]
 simp only [Option.bind_some]
 by_cases h4:a≥S.length
 ·rw [if_pos h4,if_neg (fun h=>by have:=h.1.2.2.2.1; omega)]; simp
 rw [if_neg h4]
 by_cases h5:b≥S.length
 ·rw [if_pos h5,if_neg (fun h=>by have:=h.1.2.2.2.2; omega)]; simp
 rw [if_neg h5,R9 hP]
 simp only [Option.bind_some]
 have hlt:=Ev a b (fz S P a).1 (fz S P b).1
 by_cases h6:(dm S P a b).2.1=18446744073709551615
 ·rw [if_pos h6,if_neg (fun h=>h.2.1 h6)]; simp
 have hl2:0<=(dm S P a b).2.1+1/\(dm S P a b).2.1+1<18446744073709551616:=by unfold dm at h6 ⊢; omega
 rw [if_neg h6,azv]
 simp only [Option.bind_some]
 rw [ff hl2.1 hl2.2,aoN hl2.1 hl2.2]
 simp only [Option.bind_some]
 unfold uD
 by_cases h7:R3 ((dm S P a b).2.1+1) t size
 ·have hsz:=ic h7
  have hall:(a≠b/\0<=a/\0<=b/\a<S.length/\b<S.length)/\(dm S P a b).2.1≠18446744073709551615/\R3 ((dm S P a b).2.1+1) t size:=⟨⟨h1,by omega,by omega,by omega,by omega⟩,h6,h7⟩
  rw [if_pos h7,if_pos hall]
  simp only [Bool.not_true,cond_false]
  by_cases h8:(dm S P a b).1=a
  ·simp only [if_pos h8]
   rw [Bj hd]
   have hm:Eo size S b (d8 ((dm S P a b).2.1+1) t size)=true:=by unfold Eo; rw [decide_eq_true]; exact ⟨⟨by omega,by omega⟩,by omega⟩
   rw [hm,Ew hsz]
   rfl
  ·simp only [if_neg h8]
   rw [Bj hd]
   have hm:Eo size S a (d8 ((dm S P a b).2.1+1) t size)=true:=by unfold Eo; rw [decide_eq_true]; exact ⟨⟨by omega,by omega⟩,by omega⟩
   rw [hm,Ew hsz]
   rfl
 ·have hall:¬ ((a≠b/\0<=a/\0<=b/\a<S.length/\b<S.length)/\(dm S P a b).2.1≠18446744073709551615/\R3 ((dm S P a b).2.1+1) t size):=fun h=>h7 h.2.2
  rw [if_neg h7,if_neg hall]
  simp
theorem azx {a b:Int} {t:ByteArray} {p:W2} (h:sJ size S P a b t=some p):0<=p.1/\p.1<S.length/\(p.2.size:Int)=size:=by
 unfold sJ at h
 split at h
 ·rename_i hc
  cases h
  refine ⟨?_,?_,ic hc.2.2⟩<;>dsimp only<;>split<;>have:=hc.1<;>omega
 ·cases h
theorem R4 {a b:Int} {t:ByteArray} (hd:ca size S P) (hl:P.length<1000000):ca size S (P++(sJ size S P a b t).toList):=by
 cases hb:sJ size S P a b t with
 | none=>simpa using hd
 | some p =>
  have hin:=azx hb
  refine ⟨hd.lo,hd.hi,hd.n2,hd.sz,fun q hq=>?_,by simp; omega⟩
  rcases List.mem_append.1 hq with h | h
  ·exact hd.pd q h
  ·simp at h
   subst h
   exact hin
theorem azy {a b:Int} {t:ByteArray} (hd:ca size S P) (hl:P.length<1000000):mA (a,b,t,()) ((size,()),S,P,()) =
  some ((sJ size S P a b t).isSome,((size,()),(if (sJ size S P a b t).isSome then xD size S (P++(sJ size S P a b t).toList) else S),(),(if (sJ size S P a b t).isSome then [] else P),())):=by
 rw [amD]
 unfold mz
 rw [aoP hd]
 simp only [Option.bind_some]
 cases hb:sJ size S P a b t with
 | none=>simp
 | some p =>
  have:=R4 (a:=a) (b:=b) (t:=t) hd hl
  rw [hb] at this
  simp only [Option.isSome_some,Bool.not_true,cond_false,if_true]
  rw [aoJ this]
  rfl
end
theorem fw (a:ByteArray):(a.toList==a.toList)=true:=beq_self_eq_true _
end Go.Proofs.YtljfdfghagiblaaGreat.S2
