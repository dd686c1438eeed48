/- Stores,in plain words. -/
import Derived.Test.YtljfdfghagiblaaGreatGstore
import Derived.Test.YtljfdfghagiblaaGreatPwire
namespace Go.Proofs.YtljfdfghagiblaaGreat.S2
open Go
abbrev jk:=Int×Int×Int×Int×Int×ByteArray×Unit
def noT:jk:=(0,0,0,0,0,eB,())
def aH (n:Int):Prop:=0<=n/\n<18446744073709551616
structure tf (t:jk):Prop where
 a:aH t.1
 b:aH t.2.1
 c:aH t.2.2.1
 d:aH t.2.2.2.1
 e:aH t.2.2.2.2.1
 f:t.2.2.2.2.2.1.size<=140737488355328
def en (t:jk):ByteArray:=oD t.1++oD t.2.1++oD t.2.2.1++oD t.2.2.2.1++oD t.2.2.2.2.1++(oD t.2.2.2.2.2.1.size++t.2.2.2.2.2.1)
theorem aaI (t:jk):bs (en t)=bJ t.1.toNat++(bJ t.2.1.toNat++(bJ t.2.2.1.toNat++(bJ t.2.2.2.1.toNat++(bJ t.2.2.2.2.1.toNat++(bJ t.2.2.2.2.2.1.size++bs t.2.2.2.2.2.1))))):=by
 unfold en
 simp only [gA,sE,List.append_assoc,Int.toNat_natCast]
theorem acf (a:ByteArray):eB++a=a:=by
 apply dF
 rw [gA]
 rfl
theorem azz {t:jk} (h:tf t):mG (t,()) ()=some (en t,()):=by
 obtain ⟨a,b,c,d,e,f,⟨⟩⟩:=t
 have h1:=aM h.a.1 h.a.2
 have h2:=aM h.b.1 h.b.2
 have h3:=aM h.c.1 h.c.2
 have h4:=aM h.d.1 h.d.2
 have h5:=aM h.e.1 h.e.2
 have hf:=h.f
 dsimp only at h1 h2 h3 h4 h5 hf
 have h6:=aM (n:=f.size) (by omega) (by omega)
 rw [amF]
 unfold mD
 rw [dQ h.a.1 h.a.2]
 simp only [Option.bind_some]
 rw [ap (by omega),dQ h.b.1 h.b.2]
 simp only [Option.bind_some,acf]
 rw [ap (by omega),dQ h.c.1 h.c.2]
 simp only [Option.bind_some]
 rw [ap (by rw [ByteArray.size_append]; omega),dQ h.d.1 h.d.2]
 simp only [Option.bind_some]
 rw [ap (by rw [ByteArray.size_append,ByteArray.size_append]; omega),dQ h.e.1 h.e.2]
 simp only [Option.bind_some]
 rw [ap (by simp only [ByteArray.size_append]; omega),acg (by omega)]
 simp only [Option.bind_some]
 rw [ap (by simp only [ByteArray.size_append]; omega)]
 rfl
def zj (t:jk):Prop:=t.2.2.1=1∨(t.2.2.1=0/\t.2.2.2.1=0/\t.2.2.2.2.1=0/\t.2.2.2.2.2.1=eB)
instance (t:jk):Decidable (zj t):=by unfold zj; exact inferInstance
theorem aFY {t:jk}:mC (t,()) ()=some (decide (zj t),()):=by
 obtain ⟨a,b,c,d,e,f,⟨⟩⟩:=t
 rw [amE]
 unfold mB zj
 simp only [cN,ci]
 by_cases h1:c=1
 ·simp [h1]
 ·rw [if_neg h1]
  by_cases h2:c=0
  ·rw [if_pos h2]
   by_cases h3:d=0
   ·rw [if_pos h3]
    by_cases h4:e=0
    ·rw [if_pos h4]; simp [h2,h3,h4]
    ·rw [if_neg h4]; simp [h1,h4]
   ·rw [if_neg h3]; simp [h1,h3]
  ·rw [if_neg h2]; simp [h1,h2]
def q1 (s:ByteArray):=bQ s
def q2 (s:ByteArray):=bQ (q1 s).2.1
def q3 (s:ByteArray):=bQ (q2 s).2.1
def q4 (s:ByteArray):=bQ (q3 s).2.1
def q5 (s:ByteArray):=bQ (q4 s).2.1
def q6 (s:ByteArray):=Ex (q5 s).2.1 (q5 s).2.1.size
def zr (s:ByteArray):jk:=((q1 s).1,(q2 s).1,(q3 s).1,(q4 s).1,(q5 s).1,(q6 s).1,())
def okP (s:ByteArray):Prop:=((q1 s).2.2=true/\(q2 s).2.2=true/\(q3 s).2.2=true/\(q4 s).2.2=true/\(q5 s).2.2=true)/\(q6 s).2.2=true/\(q6 s).2.1=eB/\zj (zr s)
instance (s:ByteArray):Decidable (okP s):=by unfold okP; exact inferInstance
def BM (s:ByteArray):jk×Bool:=if okP s then (zr s,true) else (noT,false)
theorem U6 (s:ByteArray):(q5 s).2.1.size<=s.size :=
 Nat.le_trans (ot (s:=(q4 s).2.1)) (Nat.le_trans (ot (s:=(q3 s).2.1)) (Nat.le_trans (ot (s:=(q2 s).2.1)) (Nat.le_trans (ot (s:=(q1 s).2.1)) (ot (s:=s)))))
theorem aoQ {s:ByteArray} (hs:s.size<=281474976710656):lx (s,()) ()=some (((BM s).1,(BM s).2,()),()):=by
 rw [amG]
 unfold mH BM
 have hq:=U6 s
 rw [fx]
 simp only [Option.bind_some]
 have k1:bQ s=q1 s:=rfl
 rw [k1]
 cases h1:(q1 s).2.2 with
 | false=>rw [if_neg (fun h=>by have:=h.1.1; rw [h1] at this; cases this)]; rfl
 | true =>
 simp only [Bool.not_true,cond_false]
 rw [fx]
 simp only [Option.bind_some]
 have k2:bQ (q1 s).2.1=q2 s:=rfl
 rw [k2]
 cases h2:(q2 s).2.2 with
 | false=>rw [if_neg (fun h=>by have:=h.1.2.1; rw [h2] at this; cases this)]; rfl
 | true =>
 simp only [Bool.not_true,cond_false]
 rw [fx]
 simp only [Option.bind_some]
 have k3:bQ (q2 s).2.1=q3 s:=rfl
 rw [k3]
 cases h3:(q3 s).2.2 with
 | false=>rw [if_neg (fun h=>by have:=h.1.2.2.1; rw [h3] at this; cases this)]; rfl
 | true =>
 simp only [Bool.not_true,cond_false]
 rw [fx]
 simp only [Option.bind_some]
 have k4:bQ (q3 s).2.1=q4 s:=rfl
 rw [k4]
 cases h4:(q4 s).2.2 with
 | false=>rw [if_neg (fun h=>by have:=h.1.2.2.2.1; rw [h4] at this; cases this)]; rfl
 | true =>
 simp only [Bool.not_true,cond_false]
 rw [fx]
 simp only [Option.bind_some]
 have k5:bQ (q4 s).2.1=q5 s:=rfl
 rw [k5]
 cases h5:(q5 s).2.2 with
 | false=>rw [if_neg (fun h=>by have:=h.1.2.2.2.2; rw [h5] at this; cases this)]; rfl
 | true =>
 simp only [Bool.not_true,cond_false]
 rw [Vb (by omega) (by omega)]
 simp only [Option.bind_some]
 have k6:Ex (q5 s).2.1 ((q5 s).2.1.size:Int)=q6 s:=rfl
 rw [k6]
 cases h6:(q6 s).2.2 with
 | false=>rw [if_neg (fun h=>by have:=h.2.1; rw [h6] at this; cases this)]; rfl
 | true =>
 simp only [Bool.not_true,cond_false]
 rw [ci]
 by_cases h7:(q6 s).2.1=eB
 ·rw [decide_eq_true h7]
  simp only [Bool.not_true,cond_false]
  have k7:=aFY (t:=zr s)
  unfold zr at k7
  rw [k7]
  simp only [Option.bind_some]
  by_cases h8:zj (zr s)
  ·rw [if_pos ⟨⟨h1,h2,h3,h4,h5⟩,h6,h7,h8⟩]
   unfold zr at h8
   rw [decide_eq_true h8]
   rfl
  ·rw [if_neg (fun h=>h8 h.2.2.2)]
   unfold zr at h8
   rw [decide_eq_false h8]
   rfl
 ·rw [decide_eq_false h7,if_neg (fun h=>h7 h.2.2.1)]
  rfl
theorem ako {t:jk} (h:tf t):BM (en t)=if zj t then (t,true) else (noT,false):=by
 obtain ⟨a,b,c,d,e,f,⟨⟩⟩:=t
 have hb:=aaI (a,b,c,d,e,f,())
 dsimp only at hb
 have h1:q1 (en (a,b,c,d,e,f,()))=(a,⟨(bJ b.toNat++(bJ c.toNat++(bJ d.toNat++(bJ e.toNat++(bJ f.size++bs f))))).toArray⟩,true):=by
  have h0:=h.a
  dsimp only at h0
  unfold q1
  rw [ng (n:=a.toNat) (by unfold aH at h0; omega) hb,Int.toNat_of_nonneg h0.1]
 have h2:q2 (en (a,b,c,d,e,f,()))=(b,⟨(bJ c.toNat++(bJ d.toNat++(bJ e.toNat++(bJ f.size++bs f)))).toArray⟩,true):=by
  have h0:=h.b
  dsimp only at h0
  unfold q2
  rw [h1,ng (n:=b.toNat) (by unfold aH at h0; omega) (ug _),Int.toNat_of_nonneg h0.1]
 have h3:q3 (en (a,b,c,d,e,f,()))=(c,⟨(bJ d.toNat++(bJ e.toNat++(bJ f.size++bs f))).toArray⟩,true):=by
  have h0:=h.c
  dsimp only at h0
  unfold q3
  rw [h2,ng (n:=c.toNat) (by unfold aH at h0; omega) (ug _),Int.toNat_of_nonneg h0.1]
 have h4:q4 (en (a,b,c,d,e,f,()))=(d,⟨(bJ e.toNat++(bJ f.size++bs f)).toArray⟩,true):=by
  have h0:=h.d
  dsimp only at h0
  unfold q4
  rw [h3,ng (n:=d.toNat) (by unfold aH at h0; omega) (ug _),Int.toNat_of_nonneg h0.1]
 have h5:q5 (en (a,b,c,d,e,f,()))=(e,⟨(bJ f.size++bs f).toArray⟩,true):=by
  have h0:=h.e
  dsimp only at h0
  unfold q5
  rw [h4,ng (n:=e.toNat) (by unfold aH at h0; omega) (ug _),Int.toNat_of_nonneg h0.1]
 have hf:=h.f
 dsimp only at hf
 have h6:q6 (en (a,b,c,d,e,f,()))=(f,eB,true):=by
  have ht:=ng (s:=⟨(bJ f.size++bs f).toArray⟩) (n:=f.size) (l:=bs f) (by omega) (ug _)
  have hz:(⟨(bJ f.size++bs f).toArray⟩:ByteArray).size=(bJ f.size).length+f.size:=by rw [← cB,ug,List.length_append,cB]
  have hff:(⟨(bs f).toArray⟩:ByteArray)=f:=dF (ug _)
  unfold q6 Ex
  rw [h5]
  dsimp only
  rw [ht,hff]
  rw [if_pos ⟨rfl,by omega,by rw [hz]; dsimp only; omega,by dsimp only; omega⟩]
  have e1:f.extract 0 ((f.size:Int)).toNat=f:=by
   apply dF
   rw [di,List.drop_zero,List.take_of_length_le (by rw [cB]; omega)]
  have e2:f.extract ((f.size:Int)).toNat f.size=eB:=by
   apply dF
   rw [di,List.drop_of_length_le (by rw [cB]; omega),List.take_nil]
   rfl
  rw [e1,e2]
 have ht:zr (en (a,b,c,d,e,f,()))=(a,b,c,d,e,f,()):=by
  unfold zr
  rw [h1,h2,h3,h4,h5,h6]
 unfold BM
 by_cases hm:zj (a,b,c,d,e,f,())
 ·rw [if_pos hm,if_pos ⟨⟨by rw [h1],by rw [h2],by rw [h3],by rw [h4],by rw [h5]⟩,by rw [h6],by rw [h6],by rw [ht]; exact hm⟩,ht]
 ·rw [if_neg hm,if_neg (fun hh=>hm (by have:=hh.2.2.2; rw [ht] at this; exact this))]
theorem ak7 {s:ByteArray} (hs:s.size<=140737488355328) (h:(BM s).2=true):s=en (BM s).1/\tf (BM s).1/\zj (BM s).1:=by
 unfold BM at h ⊢
 by_cases ho:okP s
 ·rw [if_pos ho]
  have hqs:=U6 s
  obtain ⟨⟨h1,h2,h3,h4,h5⟩,h6,h7,h8⟩:=ho
  obtain ⟨n1,a1,b1,c1⟩:=gt h1
  obtain ⟨n2,a2,b2,c2⟩:=gt h2
  obtain ⟨n3,a3,b3,c3⟩:=gt h3
  obtain ⟨n4,a4,b4,c4⟩:=gt h4
  obtain ⟨n5,a5,b5,c5⟩:=gt h5
  have h6':=h6
  unfold q6 Ex at h6 h7
  split at h6
  ·rename_i hc
   rw [if_pos hc] at h7
   obtain ⟨g1,g2,g3,g4⟩:=hc
   obtain ⟨n6,a6,b6,c6⟩:=gt g1
   have hl:(q6 s).1=(bQ (q5 s).2.1).2.1.extract 0 (bQ (q5 s).2.1).1.toNat:=by
    unfold q6 Ex
    rw [if_pos ⟨g1,g2,g3,g4⟩]
   have hz:n6=(bQ (q5 s).2.1).2.1.size:=by
    have:=congrArg ByteArray.size h7
    simp only [ByteArray.size_extract] at this
    rw [show eB.size=0 from rfl] at this
    rw [a6] at g4 this
    rw [Int.toNat_natCast] at this
    omega
   have hleaf:(q6 s).1=(bQ (q5 s).2.1).2.1:=by
    rw [hl]
    apply dF
    rw [di,List.drop_zero,a6,Int.toNat_natCast,List.take_of_length_le (by rw [cB]; omega)]
   have e1:(q1 s).1=(n1:Int):=a1
   have e2:(q2 s).1=(n2:Int):=a2
   have e3:(q3 s).1=(n3:Int):=a3
   have e4:(q4 s).1=(n4:Int):=a4
   have e5:(q5 s).1=(n5:Int):=a5
   have d1:bs s=bJ n1++bs (q1 s).2.1:=c1
   have d2:bs (q1 s).2.1=bJ n2++bs (q2 s).2.1:=c2
   have d3:bs (q2 s).2.1=bJ n3++bs (q3 s).2.1:=c3
   have d4:bs (q3 s).2.1=bJ n4++bs (q4 s).2.1:=c4
   have d5:bs (q4 s).2.1=bJ n5++bs (q5 s).2.1:=c5
   have hsz6:=ot (s:=(q5 s).2.1)
   refine ⟨?_,⟨?_,?_,?_,?_,?_,?_⟩,h8⟩
   ·apply dF
    rw [aaI]
    unfold zr
    dsimp only
    rw [e1,e2,e3,e4,e5,hleaf,d1,d2,d3,d4,d5,c6,hz]
    simp only [Int.toNat_natCast]
   ·unfold zr aH; dsimp only; omega
   ·unfold zr aH; dsimp only; omega
   ·unfold zr aH; dsimp only; omega
   ·unfold zr aH; dsimp only; omega
   ·unfold zr aH; dsimp only; omega
   ·unfold zr; dsimp only; rw [hleaf]; omega
  ·cases h6
 ·rw [if_neg ho] at h; cases h
theorem Sa {s:ByteArray}:(cI s).2.1.size<=512:=by
 unfold cI
 split
 ·rename_i h
  have:=h.2.1
  dsimp only
  rw [ByteArray.size_extract]
  omega
 ·exact Nat.zero_le _
theorem JH {a b:Int} {s t:ByteArray}:(gC a b s t).2.2.size<=512:=by
 unfold gC
 split
 ·exact Sa
 ·split
  ·exact Sa
  ·exact Nat.zero_le _
def ag (S:List ByteArray) (P:List W2):jk×Bool:=if (dm S P 0 1).2.1=0 then (noT,false) else BM (dm S P 0 1).2.2
theorem lC {S:List ByteArray} {P:List W2} (h:(ag S P).2=true):tf (ag S P).1/\zj (ag S P).1/\(ag S P).1.2.2.2.2.2.1.size<=512:=by
 unfold ag at h ⊢
 split at h
 ·cases h
 ·rename_i hn
  rw [if_neg hn]
  have hs:=JH (a:=0) (b:=1) (s:=(fz S P 0).1) (t:=(fz S P 1).1)
  have hs':(dm S P 0 1).2.2.size<=512:=hs
  obtain ⟨h1,h2,h3⟩:=ak7 (by omega) h
  refine ⟨h2,h3,?_⟩
  have hz:=congrArg ByteArray.size h1
  unfold en at hz
  simp only [ByteArray.size_append] at hz
  omega
section
variable {size:Int} {S:List ByteArray} {P:List W2}
theorem Ix (hd:ca size S P):bz () ((),(size,()),S,P,())=some (((ag S P).1,(ag S P).2,()),()):=by
 rw [amI]
 unfold iH ag
 rw [azw hd.few]
 simp only [Option.bind_some,cN]
 have hs':(dm S P 0 1).2.2.size<=512:=JH
 by_cases hn:(dm S P 0 1).2.1=0
 ·rw [if_pos hn,if_pos hn]; rfl
 ·rw [if_neg hn,if_neg hn,aoQ (by omega)]
  rfl
def gP (size:Int) (S:List ByteArray) (P:List W2) (o:Option jk):Bool×List ByteArray×List W2 :=
 match o with
 | none=>(false,S,P)
 | some t=>if (sJ size S P 0 1 (en t)).isSome then (true,xD size S (P++(sJ size S P 0 1 (en t)).toList),[]) else (false,S,P)
theorem Pz {t:jk} (ht:tf t) (hd:ca size S P) (hl:P.length<1000000):bW (t,()) ((),(size,()),S,P,()) =
  some ((gP size S P (some t)).1,((),(size,()),(gP size S P (some t)).2.1,(),(gP size S P (some t)).2.2,())):=by
 have he:=azz ht
 obtain ⟨a,b,c,d,e,f,⟨⟩⟩:=t
 rw [amL]
 unfold mK
 rw [he]
 simp only [Option.bind_some]
 rw [azy hd hl]
 unfold gP
 simp only [Option.bind_some]
 cases sJ size S P 0 1 (en (a,b,c,d,e,f,()))<;>simp
def fN (root:Int):jk:=(root,0,0,0,0,eB,())
theorem u0:aH 0:=⟨by decide,by decide⟩
theorem u1:aH 1:=⟨by decide,by decide⟩
theorem El {root:Int} (h:aH root):tf (fN root):=⟨h,u0,u0,u0,u0,Nat.zero_le _⟩
def o9 (r:jk×Bool) (sector:Int) (leaf:ByteArray) (next:Int):Option jk :=
 if r.2=true/\r.1.2.2.1≠1 then some (r.1.1,r.1.2.1,1,sector,next,leaf,()) else none
def dE (r:jk×Bool) (happened:Bool):Option jk :=
 if r.2=true/\r.1.2.2.1≠0/\¬ (happened=true/\r.1.2.1=18446744073709551615) then
  some (if happened=true then (r.1.2.2.2.2.1,r.1.2.1+1,0,0,0,eB,()) else (r.1.1,r.1.2.1,0,0,0,eB,())) else none
theorem UW {r:jk×Bool} {sector next:Int} {leaf:ByteArray} {t:jk} (hr:r.2=true->tf r.1) (h1:aH sector) (h2:aH next) (h3:leaf.size<=140737488355328) (h:o9 r sector leaf next=some t):tf t:=by
 unfold o9 at h
 split at h
 ·rename_i hc
  cases h
  exact ⟨(hr hc.1).a,(hr hc.1).b,u1,h1,h2,h3⟩
 ·cases h
theorem Gc {r:jk×Bool} {happened:Bool} {t:jk} (hr:r.2=true->tf r.1) (h:dE r happened=some t):tf t:=by
 unfold dE at h
 split at h
 ·rename_i hc
  have k:=hr hc.1
  cases happened with
  | true =>
   simp only [if_true,Option.some.injEq] at h
   subst h
   have hb:=k.b
   have hne:r.1.2.1≠18446744073709551615:=fun e=>hc.2.2 ⟨rfl,e⟩
   exact ⟨k.e,by unfold aH at hb ⊢; dsimp only; omega,u0,u0,u0,Nat.zero_le _⟩
  | false =>
   simp only [Bool.false_eq_true,if_false,Option.some.injEq] at h
   subst h
   exact ⟨k.a,k.b,u0,u0,u0,Nat.zero_le _⟩
 ·cases h
theorem aoo {root:Int} (h:aH root) (hd:ca size S P) (hl:P.length<1000000):lY (root,()) ((),(size,()),S,P,()) =
  some ((gP size S P (some (fN root))).1,((),(size,()),(gP size S P (some (fN root))).2.1,(),(gP size S P (some (fN root))).2.2,())):=by
 rw [amM]
 unfold mL
 have:=Pz (El h) hd hl
 unfold fN at this ⊢
 rw [this]
 rfl
theorem RE {sector next:Int} {leaf:ByteArray} (h1:aH sector) (h2:aH next) (h3:leaf.size<=140737488355328) (hd:ca size S P) (hl:P.length<1000000) :
  fq (sector,leaf,next,()) ((),(size,()),S,P,()) =
  some ((gP size S P (o9 (ag S P) sector leaf next)).1,((),(size,()),(gP size S P (o9 (ag S P) sector leaf next)).2.1,(),(gP size S P (o9 (ag S P) sector leaf next)).2.2,())):=by
 rw [amN]
 unfold mM
 rw [Ix hd]
 simp only [Option.bind_some]
 have hr:(ag S P).2=true->tf (ag S P).1:=fun h=>(lC h).1
 cases hb:(ag S P).2 with
 | false =>
  have:o9 (ag S P) sector leaf next=none:=if_neg (fun h=>by rw [hb] at h; cases h.1)
  rw [this]
  rfl
 | true =>
  simp only [Bool.not_true,cond_false,cN]
  by_cases hp:(ag S P).1.2.2.1=1
  ·have:o9 (ag S P) sector leaf next=none:=if_neg (fun h=>h.2 hp)
   rw [if_pos hp,this]
   rfl
  ·have hi:o9 (ag S P) sector leaf next=some ((ag S P).1.1,(ag S P).1.2.1,1,sector,next,leaf,()):=if_pos ⟨hb,hp⟩
   rw [if_neg hp,Pz (UW hr h1 h2 h3 hi) hd hl,hi]
   rfl
theorem akA {happened:Bool} (hd:ca size S P) (hl:P.length<1000000) :
  oy (happened,()) ((),(size,()),S,P,()) =
  some ((gP size S P (dE (ag S P) happened)).1,((),(size,()),(gP size S P (dE (ag S P) happened)).2.1,(),(gP size S P (dE (ag S P) happened)).2.2,())):=by
 rw [amO]
 unfold mN
 rw [Ix hd]
 simp only [Option.bind_some]
 have hr:(ag S P).2=true->tf (ag S P).1:=fun h=>(lC h).1
 cases hb:(ag S P).2 with
 | false =>
  have:dE (ag S P) happened=none:=if_neg (fun h=>by rw [hb] at h; cases h.1)
  rw [this]
  rfl
 | true =>
  simp only [Bool.not_true,cond_false,cN]
  by_cases hp:(ag S P).1.2.2.1=0
  ·have:dE (ag S P) happened=none:=if_neg (fun h=>h.2.1 hp)
   rw [if_pos hp,this]
   rfl
  ·rw [if_neg hp]
   cases happened with
   | true =>
    simp only [cond_true]
    by_cases hv:(ag S P).1.2.1=18446744073709551615
    ·have:dE (ag S P) true=none:=if_neg (fun h=>h.2.2 ⟨rfl,hv⟩)
     rw [if_pos hv,this]
     rfl
    ·have hi:dE (ag S P) true=some ((ag S P).1.2.2.2.2.1,(ag S P).1.2.1+1,0,0,0,eB,()):=if_pos ⟨hb,hp,fun h=>hv h.2⟩
     have hvb:=(hr hb).b
     unfold aH at hvb
     rw [if_neg hv,ff (n:=(ag S P).1.2.1+1) (by omega) (by omega),Pz (Gc hr hi) hd hl,hi]
     rfl
   | false =>
    simp only [cond_false]
    have hi:dE (ag S P) false=some ((ag S P).1.1,(ag S P).1.2.1,0,0,0,eB,()):=if_pos ⟨hb,hp,fun h=>by cases h.1⟩
    rw [Pz (Gc hr hi) hd hl,hi]
    rfl
end
theorem Jl {size:Int} {S:List ByteArray} {P:List W2}:oA () ((size,()),S,P,())=if (S.length:Int)<2 then some (.inl ((),((size,()),S,P,()))) else some (.inr ((),((size,()),S,P,(),()))):=by
 rw [amH]
 unfold mJ
 rw [LD]
 simp only [Option.bind_some,aW]
end Go.Proofs.YtljfdfghagiblaaGreat.S2
