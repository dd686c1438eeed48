/- The document's stores,in plain words. -/
import Derived.Test.YtljfdfghagiblaaGreatGrstore
import Derived.Test.YtljfdfghagiblaaGreatPrwire
import Derived.Test.YtljfdfghagiblaaGreatPrslot
import Derived.Test.YtljfdfghagiblaaGreatPstore
import Derived.Test.YtljfdfghagiblaaGreatPgate2
import Derived.Test.YtljfdfghagiblaaGreatS2za
namespace Go.Proofs.YtljfdfghagiblaaGreat.S2
open Go
theorem azs {t:jk} (h:tf t):wu (t,()) ()=some (en t,()):=by
 obtain ⟨a,b,c,d,e,f,⟨⟩⟩:=t
 have h1:=aM h.a.1 h.a.2
 have h2:=aM h.b.1 h.b.2
 have h3:=aM h.c.1 h.c.2
 have h4:=aM h.d.1 h.d.2
 have h5:=aM h.e.1 h.e.2
 have hf:=h.f
 dsimp only at h1 h2 h3 h4 h5 hf
 have h6:=aM (n:=f.size) (by omega) (by omega)
 rw [auI]
 unfold sa
 rw [dd h.a.1 h.a.2]
 simp only [Option.bind_some]
 rw [dd h.b.1 h.b.2]
 simp only [Option.bind_some]
 rw [ap (by omega),dd h.c.1 h.c.2]
 simp only [Option.bind_some]
 rw [ap (by simp only [ByteArray.size_append]; omega),dd h.d.1 h.d.2]
 simp only [Option.bind_some]
 rw [ap (by simp only [ByteArray.size_append]; omega),dd h.e.1 h.e.2]
 simp only [Option.bind_some]
 rw [ap (by simp only [ByteArray.size_append]; omega),acb (by omega)]
 simp only [Option.bind_some]
 rw [ap (by simp only [ByteArray.size_append]; omega)]
 rfl
theorem zq {s:ByteArray} {l:List Int} (hl:l.length<5):gb (s,5,()) (l,()) =
  if (bQ s).2.2=true then gb ((bQ s).2.1,5,()) (l++[(bQ s).1],()) else some (.inl ((s,eB,false,()),(l,()))):=by
 rw [Q4]
 unfold e9
 rw [ap (by omega),mW]
 simp only [Option.bind_some]
 cases h:(bQ s).2.2 with
 | false=>rfl
 | true =>
  simp only [Bool.not_true,cond_false,if_true]
  rw [ap (by omega),List.nil_append]
theorem acd {s:ByteArray}:∃ r:ByteArray,wv (s,5,()) () =
  if (q1 s).2.2=true/\(q2 s).2.2=true/\(q3 s).2.2=true/\(q4 s).2.2=true/\(q5 s).2.2=true then some (([(q1 s).1,(q2 s).1,(q3 s).1,(q4 s).1,(q5 s).1],(q5 s).2.1,true,()),())
  else some (([],r,false,()),()):=by
 rw [auS]
 unfold sy
 rw [zq (by decide)]
 have k1:bQ s=q1 s:=rfl
 rw [k1]
 cases h1:(q1 s).2.2 with
 | false=>exact ⟨_,by simp; rfl⟩
 | true =>
 rw [if_pos rfl,zq (by simp)]
 have k2:bQ (q1 s).2.1=q2 s:=rfl
 rw [k2]
 cases h2:(q2 s).2.2 with
 | false=>exact ⟨_,by simp; rfl⟩
 | true =>
 rw [if_pos rfl,zq (by simp)]
 have k3:bQ (q2 s).2.1=q3 s:=rfl
 rw [k3]
 cases h3:(q3 s).2.2 with
 | false=>exact ⟨_,by simp; rfl⟩
 | true =>
 rw [if_pos rfl,zq (by simp)]
 have k4:bQ (q3 s).2.1=q4 s:=rfl
 rw [k4]
 cases h4:(q4 s).2.2 with
 | false=>exact ⟨_,by simp; rfl⟩
 | true =>
 rw [if_pos rfl,zq (by simp)]
 have k5:bQ (q4 s).2.1=q5 s:=rfl
 rw [k5]
 cases h5:(q5 s).2.2 with
 | false=>exact ⟨_,by simp; rfl⟩
 | true =>
 rw [if_pos rfl,Q4]
 unfold e9
 rw [bq (by simp)]
 exact ⟨eB,by simp⟩
theorem aoI {s:ByteArray} (hs:s.size<=281474976710656):tY (s,()) ()=some (((BM s).1,(BM s).2,()),()):=by
 rw [auJ]
 unfold sb
 have hq:=U6 s
 obtain ⟨r,hn⟩:=acd (s:=s)
 rw [hn]
 by_cases h5:(q1 s).2.2=true/\(q2 s).2.2=true/\(q3 s).2.2=true/\(q4 s).2.2=true/\(q5 s).2.2=true
 ·rw [if_pos h5]
  simp only [Option.bind_some,Bool.not_true,cond_false]
  rw [U7 (by omega) (by omega)]
  have k6:Ex (q5 s).2.1 ((q5 s).2.1.size:Int)=q6 s:=rfl
  rw [k6]
  simp only [Option.bind_some]
  rw [ap (by simp),ap (by simp),ap (by simp),ap (by simp),ap (by simp)]
  simp only [List.getD_cons_zero,List.getD_cons_succ,cN,ci,aW]
  have hall:okP s↔(q6 s).2.2=true/\(q6 s).2.1=eB/\((q3 s).1=1∨((q3 s).1=0/\(q4 s).1=0/\(q5 s).1=0/\(q6 s).1=eB)) :=
   ⟨fun h=>⟨h.2.1,h.2.2.1,h.2.2.2⟩,fun h=>⟨h5,h.1,h.2.1,h.2.2⟩⟩
  have hno:¬ okP s->BM s=(noT,false):=fun h=>if_neg h
  have hyes:okP s->BM s=(zr s,true):=fun h=>if_pos h
  have hc':0<=(q3 s).1:=(Px (q2 s).2.1).1
  cases h6:(q6 s).2.2 with
  | false =>
   rw [hno (fun h=>by have:=(hall.1 h).1; rw [h6] at this; cases this)]
   simp only [Bool.not_false,cond_true]
   split
   ·split<;>rfl
   ·rfl
  | true =>
   simp only [Bool.not_true,cond_false]
   by_cases h7:(q6 s).2.1=eB
   ·simp only [decide_eq_true h7,Bool.not_true,cond_false]
    by_cases h8:(q3 s).1>1
    ·rw [hno (fun h=>by have:=(hall.1 h).2.2; omega)]
     simp only [if_pos h8]
     split
     ·split<;>rfl
     ·rfl
    ·simp only [if_neg h8]
     by_cases h9:(q3 s).1=0
     ·simp only [if_pos h9]
      by_cases g1:(q4 s).1=0
      ·simp only [if_pos g1]
       by_cases g2:(q5 s).1=0
       ·simp only [if_pos g2]
        by_cases g3:(q6 s).1=eB
        ·rw [decide_eq_true g3,hyes (hall.2 ⟨h6,h7,.inr ⟨h9,g1,g2,g3⟩⟩)]
         simp only [Bool.not_true,cond_false]
         rfl
        ·have hx : ¬ okP s := by
          intro h
          rcases (hall.1 h).2.2 with h | h
          ·omega
          ·exact g3 h.2.2.2
         rw [decide_eq_false g3,hno hx]
         rfl
       ·rw [hno (fun h=>by have:=(hall.1 h).2.2; omega)]
        simp only [if_neg g2]
        rfl
      ·rw [hno (fun h=>by have:=(hall.1 h).2.2; omega)]
       simp only [if_neg g1]
       rfl
     ·simp only [if_neg h9]
      rw [hyes (hall.2 ⟨h6,h7,.inl (by omega)⟩)]
      split
      ·split<;>rfl
      ·rfl
   ·rw [hno (fun h=>h7 (hall.1 h).2.1)]
    simp only [decide_eq_false h7,Bool.not_false,cond_true]
    split
    ·split<;>rfl
    ·rfl
 ·rw [if_neg h5,show BM s=(noT,false) from if_neg (fun h=>h5 h.1)]
  rfl
section
variable {size:Int} {S:List ByteArray} {P:List W2}
theorem Pu (hd:ca size S P):a7 () ((size,()),S,cC P,())=some (((ag S P).1,(ag S P).2,()),()):=by
 rw [auK]
 unfold kZ ag
 rw [azr hd]
 simp only [Option.bind_some,cN]
 have hs':(dm S P 0 1).2.2.size<=512:=JH
 by_cases hn:(dm S P 0 1).2.1=0
 ·rw [if_pos hn,if_pos hn]; rfl
 ·rw [if_neg hn,if_neg hn,aoI (by omega)]
  rfl
theorem Py {t:jk} (ht:tf t) (hd:ca size S P) (hl:P.length<1000000):dc (t,()) ((size,()),S,cC P,()) =
  some ((gP size S P (some t)).1,((size,()),(gP size S P (some t)).2.1,(),cC (gP size S P (some t)).2.2,())):=by
 have he:=azs ht
 obtain ⟨a,b,c,d,e,f,⟨⟩⟩:=t
 rw [auL]
 unfold sc
 rw [he]
 simp only [Option.bind_some]
 rw [aoH hd]
 unfold gP
 simp only [Option.bind_some]
 have hb:=R4 (a:=0) (b:=1) (t:=en (a,b,c,d,e,f,())) hd hl
 cases hbb:sJ size S P 0 1 (en (a,b,c,d,e,f,())) with
 | none=>simp
 | some p =>
  rw [hbb] at hb
  simp only [Option.isSome_some,Bool.not_true,cond_false,if_true]
  rw [aox hb]
  rfl
theorem aoA {root:Int} (h:aH root) (hd:ca size S P) (hl:P.length<1000000):tR (root,()) ((size,()),S,cC P,()) =
  some ((gP size S P (some (fN root))).1,((size,()),(gP size S P (some (fN root))).2.1,(),cC (gP size S P (some (fN root))).2.2,())):=by
 rw [auM]
 unfold sd
 have:=Py (El h) hd hl
 unfold fN at this ⊢
 rw [this]
 rfl
theorem ak1 {t:jk} (h:zj t):t.2.2.1=0∨t.2.2.1=1:=by
 rcases h with h | h
 ·exact .inr h
 ·exact .inl h.1
theorem ak0 {sector next:Int} {leaf:ByteArray} (h1:aH sector) (h2:aH next) (h3:leaf.size<=140737488355328) (hd:ca size S P) (hl:P.length<1000000) :
  vW (sector,leaf,next,()) ((size,()),S,cC P,()) =
  some ((gP size S P (o9 (ag S P) sector leaf next)).1,((size,()),(gP size S P (o9 (ag S P) sector leaf next)).2.1,(),cC (gP size S P (o9 (ag S P) sector leaf next)).2.2,())):=by
 rw [auN]
 unfold sf
 rw [Pu hd]
 simp only [Option.bind_some]
 have hr:(ag S P).2=true->tf (ag S P).1:=fun h=>(lC h).1
 cases hb:(ag S P).2 with
 | false =>
  have:o9 (ag S P) sector leaf next=none:=if_neg (fun h=>by rw [hb] at h; cases h.1)
  rw [this]
  rfl
 | true =>
  have hm:=ak1 (lC hb).2.1
  simp only [Bool.not_true,cond_false,En]
  by_cases hp:(ag S P).1.2.2.1=0
  ·have hi:o9 (ag S P) sector leaf next=some ((ag S P).1.1,(ag S P).1.2.1,1,sector,next,leaf,()):=if_pos ⟨hb,by omega⟩
   rw [if_pos hp,Py (UW hr h1 h2 h3 hi) hd hl,hi]
   rfl
  ·have:o9 (ag S P) sector leaf next=none:=if_neg (fun h=>by have:=h.2; omega)
   rw [if_neg hp,this]
   rfl
theorem akY {happened:Bool} (hd:ca size S P) (hl:P.length<1000000) :
  vL (happened,()) ((size,()),S,cC P,()) =
  some ((gP size S P (dE (ag S P) happened)).1,((size,()),(gP size S P (dE (ag S P) happened)).2.1,(),cC (gP size S P (dE (ag S P) happened)).2.2,())):=by
 rw [auO]
 unfold sg
 rw [Pu hd]
 simp only [Option.bind_some]
 have hr:(ag S P).2=true->tf (ag S P).1:=fun h=>(lC h).1
 cases hb:(ag S P).2 with
 | false =>
  have:dE (ag S P) happened=none:=if_neg (fun h=>by rw [hb] at h; cases h.1)
  rw [this]
  rfl
 | true =>
  have hm:=ak1 (lC hb).2.1
  simp only [Bool.not_true,cond_false,En]
  by_cases hp:(ag S P).1.2.2.1=1
  ·rw [if_pos hp]
   cases happened with
   | true =>
    simp only [Bool.not_true,cond_false,cN]
    have hvb:=(hr hb).b
    unfold aH at hvb
    by_cases hv:(ag S P).1.2.1=18446744073709551615
    ·have:dE (ag S P) true=none:=if_neg (fun h=>h.2.2 ⟨rfl,hv⟩)
     rw [if_pos (by rw [hv]; decide),this]
     rfl
    ·have hi:dE (ag S P) true=some ((ag S P).1.2.2.2.2.1,(ag S P).1.2.1+1,0,0,0,eB,()):=if_pos ⟨hb,by omega,fun h=>hv h.2⟩
     rw [ff (n:=(ag S P).1.2.1+1) (by omega) (by omega),if_neg (by omega),Py (Gc hr hi) hd hl,hi]
     rfl
   | false =>
    simp only [Bool.not_false,cond_true]
    have hi:dE (ag S P) false=some ((ag S P).1.1,(ag S P).1.2.1,0,0,0,eB,()):=if_pos ⟨hb,by omega,fun h=>by cases h.1⟩
    rw [Py (Gc hr hi) hd hl,hi]
    rfl
  ·have:dE (ag S P) happened=none:=if_neg (fun h=>by have:=h.2.1; omega)
   rw [if_neg hp,this]
   rfl
end
end Go.Proofs.YtljfdfghagiblaaGreat.S2
namespace Go.Proofs.YtljfdfghagiblaaGreat.S2.Mk
open Go Go.Proofs.YtljfdfghagiblaaGreat.S2
abbrev KK:=Int×Int×Int×Int×Int×ByteArray×ByteArray×List Int×List Int
theorem Ga {d:Nat} (h4:d<=4):0<2 ^ d/\2 ^ d<=16:=⟨Nat.pow_pos (by decide),Nat.pow_le_pow_right (by decide) h4 (n:=2)⟩
structure Pd (x:KK):Prop where
 s:U x.2.2.2.1
 h:U x.2.2.2.2.1
 shw:P0 x.2.2.2.2.2.2.1 x.2.2.2.2.2.2.2.1
 pz:x.2.2.2.2.2.1.size<=140737488355328
def aGP (x:KK):=(x.1,x.2.1,x.2.2.1,x.2.2.2.1,x.2.2.2.2.1,x.2.2.2.2.2.1,x.2.2.2.2.2.2.1,x.2.2.2.2.2.2.2.1,x.2.2.2.2.2.2.2.2,())
open Go Go.Proofs.YtljfdfghagiblaaGreat.S2
theorem aFR {n:Nat} (h:n*8<=125829120):n<=16000000:=by omega
theorem aob {n:Nat} (h:n*120<=125829120):n<=140737488355328:=by omega
theorem akm {P:Program} {e:TypeId} {xs:List Int} (h:(ak.slc e (.cons (.int .u64) .nil)).wf P xs):∀ x,x∈xs->Mk.U x:=by
 intro x hx
 obtain ⟨j,hj,rfl⟩:=List.mem_iff_getElem.1 hx
 exact Vc ((Pb h rfl).2 j hj)
theorem atv {P:Program} {s:ByteArray} (h:ak.str.wf P s):s.size<=140737488355328:=Nat.le_trans h (by decide)
theorem aoR {P:Program} {e0 e1:TypeId} {x:KK} (hb:P.bytesOf e0=8) (h:(aw.cons (.int .i64) (.cons (.int .i64) (.cons (.int .i64) (.cons (.int .u64) (.cons (.int .u64) (.cons .str (.cons .str (.cons (.slc e0 (.cons (.int .u64) .nil)) (.cons (.slc e1 (.cons (.int .i64) .nil)) .nil))))))))).wf P x):Pd x/\x.2.2.2.2.2.2.2.1.length<=16000000:=by
 obtain ⟨_,_,_,h3,h4,h5,h6,h7,_⟩:=h
 have k1:=aFR (Pb h7 (n:=8) hb).1
 exact ⟨⟨Vc h3,Vc h4,⟨atv h6,akm h7,Nat.le_trans k1 (by decide)⟩,atv h5⟩,k1⟩
theorem akn {P:Program} {e e0 e1:TypeId} {l:List KK} (hb:P.bytesOf e0=8) (h:(ak.slc e (aw.cons (.int .i64) (.cons (.int .i64) (.cons (.int .i64) (.cons (.int .u64) (.cons (.int .u64) (.cons .str (.cons .str (.cons (.slc e0 (.cons (.int .u64) .nil)) (.cons (.slc e1 (.cons (.int .i64) .nil)) .nil)))))))))).wf P l):∀ x∈l,Pd x/\x.2.2.2.2.2.2.2.1.length<=16000000:=by
 intro x hx
 obtain ⟨j,hj,rfl⟩:=List.mem_iff_getElem.1 hx
 exact aoR hb (h.2 j hj)
end Go.Proofs.YtljfdfghagiblaaGreat.S2.Mk
