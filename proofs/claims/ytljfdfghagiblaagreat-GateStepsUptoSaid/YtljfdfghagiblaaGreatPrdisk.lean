/- The document's disk,in plain words. -/
import Derived.Test.YtljfdfghagiblaaGreatGrdisk
import Derived.Test.YtljfdfghagiblaaGreatPslot
namespace Go.Proofs.YtljfdfghagiblaaGreat.S2
open Go
def cC (P:List W2):List aov:=P.map fun p=>(0,p.1,p.2,[])
theorem iO (P:List W2):(cC P).length=P.length:=by simp [cC]
theorem U4 (P:List W2) (p:W2):cC (P++[p])=cC P++[(0,p.1,p.2,[])]:=by simp [cC]
theorem Lt (P:List W2) {k:Nat} (h:k<P.length):(cC P).getD k (0,0,eB,[])=(0,P[k].1,P[k].2,[]):=by simp [cC,List.getD,h]
theorem Lu {n size:Int} (h:okN n size):∀ (d k:Nat) (s:Int),(k:Int)+d=n ->
  gK (n,size,(k:Int),()) (List.replicate k (dZ size.toNat),(s,()),())=some ((),(List.replicate n.toNat (dZ size.toNat),(s,()),()))
 | 0,k,s,hk=>by
  rw [QJ]
  unfold eU
  rw [bq (by omega),show n.toNat=k by omega]
 | d+1,k,s,hk=>by
  obtain ⟨h1,h2,h3,h4⟩:=h
  rw [QJ]
  unfold eU
  rw [ap (by omega),Iz (by omega) (by omega)]
  simp only [Option.bind_some]
  rw [ap (by rw [List.length_replicate]; omega),aQ (by omega) (by omega),List.nil_append,show ((k:Int)+1)=((k+1:Nat):Int) by omega,← List.replicate_succ']
  exact Lu ⟨h1,h2,h3,h4⟩ d (k+1) s (by omega)
theorem aky {n size:Int} (h:okN n size):lM (n,size,()) ()=some (.inr ((),((size,()),List.replicate n.toNat (dZ size.toNat),[],()))):=by
 have h':=h
 obtain ⟨h1,h2,h3,h4⟩:=h
 rw [aum]
 unfold rz
 rw [bq (by omega),bq (by omega),bq (by omega),bq (by omega)]
 have:=Lu h' n.toNat 0 size (by omega)
 rw [show ((0:Nat):Int)=0 from rfl,show List.replicate 0 (dZ size.toNat)=[] from rfl] at this
 rw [this]
 rfl
theorem Cb {size at_:Int} {S:List ByteArray} {P:List W2} (hP:P.length<=1000000):∀ (d k:Nat) (s:ByteArray),k+d=P.length ->
  fE (at_,s,(k:Int),()) ((size,()),S,cC P,())=some (((match sH (P.drop k) at_ with | some t=>t | none=>s),()),((size,()),S,cC P,()))
 | 0,k,s,hk=>by
  rw [QH]
  unfold dL
  rw [bq (by rw [iO]; omega),List.drop_of_length_le (by omega)]
  rfl
 | d+1,k,s,hk=>by
  have hkl:k<P.length:=by omega
  rw [QH]
  unfold dL
  rw [ap (by rw [iO]; omega),ap (by omega),ap (by rw [iO]; omega),Nat.zero_add,Int.toNat_natCast,Lt P hkl,cN,List.drop_eq_getElem_cons hkl,JB,aQ (by omega) (by omega),show ((k:Int)+1)=((k+1:Nat):Int) by omega]
  by_cases h1:P[k].1=at_
  ·rw [if_pos h1,ap (by omega),ap (by rw [iO]; omega),Cb hP d (k+1) _ (by omega)]
   cases sH (P.drop (k+1)) at_ with
   | some t=>rfl
   | none=>dsimp only; rw [if_pos h1]
  ·rw [if_neg h1,Cb hP d (k+1) _ (by omega)]
   cases sH (P.drop (k+1)) at_ with
   | some t=>rfl
   | none=>dsimp only; rw [if_neg h1]
theorem Gl {size at_:Int} {S:List ByteArray}:∀ (P:List W2),(∀ p,p∈P->0<=p.1/\p.1<S.length/\(p.2.size:Int)=size)->¬ (0<=at_/\at_<S.length)->sH P at_=none
 | [],_,_=>rfl
 | p::l,h,hn=>by
  have h1:=h p List.mem_cons_self
  rw [JB,Gl l (fun q hq=>h q (List.mem_cons_of_mem _ hq)) hn]
  dsimp only
  rw [if_neg (fun e=>hn (by omega))]
theorem Ps {size at_:Int} {S:List ByteArray} {P:List W2} (h:ca size S P):fT (at_,()) ((size,()),S,cC P,())=some (((fz S P at_).1,(fz S P at_).2,()),()):=by
 rw [aul]
 unfold kI
 by_cases hin:0<=at_/\at_<(S.length:Int)
 ·rw [bq (by omega),bq (by omega),ap (by omega),ap (by omega)]
  have:=Cb (size:=size) (at_:=at_) (S:=S) h.few P.length 0 (S.getD (0+at_.toNat) eB) (by omega)
  rw [show ((0:Nat):Int)=0 from rfl,List.drop_zero] at this
  rw [this]
  unfold fz
  cases sH P at_ with
  | some t=>rfl
  | none =>
   unfold G1
   rw [if_pos hin,Nat.zero_add]
   rfl
 ·have e1 : fz S P at_ = (eB, false) := by
   unfold fz
   rw [Gl P h.pd hin]
   unfold G1
   rw [if_neg hin]
  rw [e1]
  simp only [aW]
  by_cases h0:at_<0
  ·rw [if_pos h0]; rfl
  ·rw [if_neg h0,if_pos (show at_≥(S.length:Int) by omega)]; rfl
theorem aav {size at_:Int} {S:List ByteArray} {P:List W2} {t:ByteArray} (hd:ca size S P):tL (at_,t,()) ((size,()),S,cC P,()) =
  some (Eo size S at_ t,((size,()),S,(),cC (if Eo size S at_ t=true then P++[(at_,aow size t)] else P),())):=by
 rw [aun]
 unfold rA Eo
 have h1:=hd.lo
 have h2:=hd.hi
 simp only [aW]
 by_cases h0:at_<0
 ·rw [if_pos h0,decide_eq_false (show ¬ ((0<=at_/\at_<(S.length:Int))/\(t.size:Int)<=size) by omega)]; rfl
 ·rw [if_neg h0]
  by_cases h3:at_≥(S.length:Int)
  ·rw [if_pos h3,decide_eq_false (show ¬ ((0<=at_/\at_<(S.length:Int))/\(t.size:Int)<=size) by omega)]; rfl
  ·rw [if_neg h3]
   by_cases hs:(t.size:Int)>size
   ·rw [if_pos hs,decide_eq_false (show ¬ ((0<=at_/\at_<(S.length:Int))/\(t.size:Int)<=size) by omega)]; rfl
   ·rw [if_neg hs,decide_eq_true (show (0<=at_/\at_<(S.length:Int))/\(t.size:Int)<=size by omega),aQ (by omega) (by omega),Iz (by omega) (by omega)]
    simp only [Option.bind_some,if_true]
    rw [if_pos (by rw [hE]; omega),if_pos (by have:=hd.few; rw [iO]; omega),U4,List.nil_append]
    rfl
theorem atq {α:Type} {size c:Int} {S:List ByteArray} {P:List W2} (h:ca size S P) {k:Nat} (hk:k<P.length) (h0:0<=c) (h1:c<=size) (K:List ByteArray->Option α) (g:aov) (hg:g=(0,P[k].1,P[k].2,[])) :
     (cond (decide (0<=c))
     (cond (decide (c<=(↑g.snd.snd.fst.size:Int)))
      (cond (decide (0<=g.snd.fst))
       (cond (decide (g.snd.fst<(↑S.length:Int)))
        (cond (decide (0<=c))
         (cond (decide (c<=(↑(S.getD (0+g.snd.fst.toNat) eB).size:Int)))
          (cond (decide ((g.snd.snd.fst.extract 0 c.toNat).size+((S.getD (0+g.snd.fst.toNat) eB).extract c.toNat (S.getD (0+g.snd.fst.toNat) eB).size).size<=9223372036854775807))
           (cond (decide (0<=g.snd.fst))
            (cond (decide (g.snd.fst<(↑S.length:Int)))
             (K (S.set (0+g.snd.fst.toNat) (g.snd.snd.fst.extract 0 c.toNat++(S.getD (0+g.snd.fst.toNat) eB).extract c.toNat (S.getD (0+g.snd.fst.toNat) eB).size)))
             none) none) none) none) none) none) none) none) none)=K (HC c.toNat S P[k]):=by
  subst hg
  have hp:=h.pd P[k] (List.getElem_mem hk)
  have hlo:=h.lo
  have hhi:=h.hi
  have hs:=h.sz _ (Ep (l:=S) (i:=P[k].1.toNat) (d:=eB) (by omega))
  dsimp only
  rw [Nat.zero_add,ap h0,ap (by omega),ap hp.1,ap hp.2.1,ap h0,ap (by omega),ap (by rw [ByteArray.size_extract,ByteArray.size_extract]; omega),ap hp.1,ap hp.2.1]
  rfl
theorem akS {α:Type} {size:Int} {S:List ByteArray} {P:List W2} (h:ca size S P) {k:Nat} (hk:k<P.length) (K:List ByteArray->Option α) (g:aov) (hg:g=(0,P[k].1,P[k].2,[])) :
     (cond (decide (0<=g.snd.fst))
       (cond (decide (g.snd.fst<(↑S.length:Int)))
          (cond (decide ((g.snd.snd.fst.extract 0 0).size+((S.getD (0+g.snd.fst.toNat) eB).extract 0 (S.getD (0+g.snd.fst.toNat) eB).size).size<=9223372036854775807))
           (cond (decide (0<=g.snd.fst))
            (cond (decide (g.snd.fst<(↑S.length:Int)))
             (K (S.set (0+g.snd.fst.toNat) (g.snd.snd.fst.extract 0 0++(S.getD (0+g.snd.fst.toNat) eB).extract 0 (S.getD (0+g.snd.fst.toNat) eB).size)))
             none) none) none) none) none)=K (HC 0 S P[k]):=by
  subst hg
  have hp:=h.pd P[k] (List.getElem_mem hk)
  have hlo:=h.lo
  have hhi:=h.hi
  have hs:=h.sz _ (Ep (l:=S) (i:=P[k].1.toNat) (d:=eB) (by omega))
  dsimp only
  rw [Nat.zero_add,ap hp.1,ap hp.2.1,ap (by rw [ByteArray.size_extract,ByteArray.size_extract]; omega),ap hp.1,ap hp.2.1]
  rfl
theorem G2 {size:Int} {P:List W2} {keep:List Int}:∀ (d k:Nat) (S:List ByteArray),ca size S P->k+d=P.length ->
  ee (keep,(k:Int),()) ((size,()),S,cC P,())=some ((),((size,()),jl (fun k=>(cS size (keep.getD k 0)).toNat) k S (P.drop k),cC P,()))
 | 0,k,S,h,hk=>by
  rw [QN]
  unfold eV
  rw [bq (by rw [iO]; omega),List.drop_of_length_le (by omega)]
  rfl
 | d+1,k,S,h,hk=>by
  have hkl:k<P.length:=by omega
  have hf:=h.few
  have hs0:=h.size0
  have hlo:=h.lo
  have hcl:=Bp (size:=size) (x:=keep.getD k 0) hs0
  have next:=G2 (keep:=keep) d (k+1) _ (h.lay (c:=(cS size (keep.getD k 0)).toNat) (by omega) (List.getElem_mem hkl)) (by omega)
  have ek:jl (fun k=>(cS size (keep.getD k 0)).toNat) k S (P.drop k)=jl (fun k=>(cS size (keep.getD k 0)).toNat) (k+1) (HC (cS size (keep.getD k 0)).toNat S P[k]) (P.drop (k+1)):=by
   rw [List.drop_eq_getElem_cons hkl]; rfl
  rw [ek,QN]
  unfold eV
  have hg:(cC P).getD (0+k) (0,0,eB,[])=(0,P[k].1,P[k].2,[]):=by rw [Nat.zero_add]; exact Lt P hkl
  have hb:(k:Int)<((cC P).length:Int):=by rw [iO]; omega
  have hn0:(0:Int)<=(k:Int):=by omega
  have hnx:IntKind.i64.wrap ((k:Int)+1)=((k+1:Nat):Int):=by rw [aQ (by omega) (by omega)]; omega
  rw [ap hb,hnx]
  simp only [Int.toNat_natCast]
  by_cases hkk:(k:Int)<keep.length
  ·rw [ap hkk,ap hn0,ap hkk]
   by_cases h1:keep.getD k 0<0
   ·have ec : cS size (keep.getD k 0) = 0 := by
     unfold cS
     rw [if_pos (show 0>keep.getD k 0 by omega),if_neg (show ¬ size<0 by omega)]
    rw [ap h1,bq (show ¬ (0>size) by omega),ap hn0,ap hb]
    rw [akS h hkl (fun z=>ee (keep,((k+1:Nat):Int),()) ((size,()),z,cC P,())) _ hg]
    rw [ec] at next
    rw [ec]
    exact next
   ·by_cases h2:keep.getD k 0>size
    ·have ec : cS size (keep.getD k 0) = size := by
      unfold cS
      rw [if_neg (show ¬ 0>keep.getD k 0 by omega),if_pos (show size<keep.getD k 0 by omega)]
     rw [bq h1,ap h2,ap hn0,ap hb]
     rw [atq h hkl hs0 (Int.le_refl _) (fun z=>ee (keep,((k+1:Nat):Int),()) ((size,()),z,cC P,())) _ hg]
     rw [ec] at next
     rw [ec]
     exact next
    ·have ec : cS size (keep.getD k 0) = keep.getD k 0 := by
      unfold cS
      rw [if_neg (show ¬ 0>keep.getD k 0 by omega),if_neg (show ¬ size<keep.getD k 0 by omega)]
     rw [bq h1,bq h2,ap hn0,ap hb]
     rw [atq h hkl (by omega) (by omega) (fun z=>ee (keep,((k+1:Nat):Int),()) ((size,()),z,cC P,())) _ hg]
     rw [ec] at next
     rw [ec]
     exact next
  ·have ez:keep.getD k 0=0:=by rw [List.getD_eq_getElem?_getD,List.getElem?_eq_none (by omega)]; rfl
   have ec:cS size (keep.getD k 0)=0:=by
    rw [ez]
    unfold cS
    rw [if_neg (show ¬ (0:Int)>0 by omega),if_neg (show ¬ size<0 by omega)]
   rw [bq hkk,bq (show ¬ (0>size) by omega),ap hn0,ap hb]
   rw [akS h hkl (fun z=>ee (keep,((k+1:Nat):Int),()) ((size,()),z,cC P,())) _ hg]
   rw [ec] at next
   rw [ec]
   exact next
theorem Pn {size:Int} {S:List ByteArray} {P:List W2} {keep:List Int} (h:ca size S P):da (keep,()) ((size,()),S,cC P,())=some ((),((size,()),jl (fun k=>(cS size (keep.getD k 0)).toNat) 0 S P,(),[],())):=by
 rw [auo]
 unfold rD
 have:=G2 (keep:=keep) P.length 0 S h (by omega)
 rw [show ((0:Nat):Int)=0 from rfl] at this
 rw [this]
 rfl
theorem G3 {size:Int} {S:List ByteArray} {P:List W2} (hP:P.length<=1000000):∀ (d k:Nat),k+d=P.length ->
  gL ((k:Int),()) ((size,()),S,cC P,List.replicate k size,())=some ((),((size,()),S,cC P,List.replicate P.length size,()))
 | 0,k,hk=>by
  rw [QP]
  unfold eW
  rw [bq (by rw [iO]; omega),show k=P.length by omega]
 | d+1,k,hk=>by
  rw [QP]
  unfold eW
  rw [ap (by rw [iO]; omega),ap (by rw [List.length_replicate]; omega),aQ (by omega) (by omega),List.nil_append,← List.replicate_succ',show ((k:Int)+1)=((k+1:Nat):Int) by omega]
  exact G3 hP d (k+1) (by omega)
theorem aox {size:Int} {S:List ByteArray} {P:List W2} (h:ca size S P):vH () ((size,()),S,cC P,())=some ((),((size,()),xD size S P,(),[],())):=by
 rw [aup]
 unfold rG
 have:=G3 (size:=size) (S:=S) h.few P.length 0 (by omega)
 rw [show ((0:Nat):Int)=0 from rfl,show List.replicate 0 size=[] from rfl] at this
 rw [this]
 simp only [Option.bind_some]
 rw [Pn h,ab8]
 rfl
end Go.Proofs.YtljfdfghagiblaaGreat.S2
