/- Stores,in plain words. -/
import Derived.Test.YtljfdfghagiblaaGstore
import Derived.Test.YtljfdfghagiblaaPwire
set_option linter.unusedVariables false
set_option linter.unusedSimpArgs false
namespace Go.Proofs.Ytljfdfghagiblaa.S2
open Go
abbrev TrT:=Int×Int×Int×Int×Int×ByteArray×Unit
def noT:TrT:=(0,0,0,0,0,ByteArray.empty,())
def u64I (n:Int):Prop:=0≤n∧n < 18446744073709551616
structure TrOk (t:TrT):Prop where
  a:u64I t.1
  b:u64I t.2.1
  c:u64I t.2.2.1
  d:u64I t.2.2.2.1
  e:u64I t.2.2.2.2.1
  f:t.2.2.2.2.2.1.size≤140737488355328
def textB (t:TrT):ByteArray:=putB t.1 ++ putB t.2.1 ++ putB t.2.2.1 ++ putB t.2.2.2.1 ++ putB t.2.2.2.2.1 ++ (putB t.2.2.2.2.2.1.size ++ t.2.2.2.2.2.1)
theorem bs_text (t:TrT):bs (textB t) = putL t.1.toNat ++ (putL t.2.1.toNat ++ (putL t.2.2.1.toNat ++ (putL t.2.2.2.1.toNat ++ (putL t.2.2.2.2.1.toNat ++ (putL t.2.2.2.2.2.1.size ++ bs t.2.2.2.2.2.1))))):=by
  unfold textB
  simp only [bs_append,bs_put,List.append_assoc,Int.toNat_natCast]
theorem empty_app (a:ByteArray):ByteArray.empty ++ a = a:=by
  apply bs_inj
  rw [bs_append]
  rfl
theorem e_Text {t:TrT} (h:TrOk t):F_k74 (t,()) () = some (textB t,()):=by
  obtain ⟨a,b,c,d,e,f,⟨⟩⟩:=t
  have h1:=putB_size h.a.1 h.a.2
  have h2:=putB_size h.b.1 h.b.2
  have h3:=putB_size h.c.1 h.c.2
  have h4:=putB_size h.d.1 h.d.2
  have h5:=putB_size h.e.1 h.e.2
  have hf:=h.f
  dsimp only at h1 h2 h3 h4 h5 hf
  have h6:=putB_size (n:=f.size) (by omega) (by omega)
  rw [Fe_k74]
  unfold tree_k74
  rw [e_PutUint h.a.1 h.a.2]
  simp only [Option.bind_some]
  rw [cd_t (by omega),e_PutUint h.b.1 h.b.2]
  simp only [Option.bind_some,empty_app]
  rw [cd_t (by omega),e_PutUint h.c.1 h.c.2]
  simp only [Option.bind_some]
  rw [cd_t (by rw [ByteArray.size_append]; omega),e_PutUint h.d.1 h.d.2]
  simp only [Option.bind_some]
  rw [cd_t (by rw [ByteArray.size_append,ByteArray.size_append]; omega),e_PutUint h.e.1 h.e.2]
  simp only [Option.bind_some]
  rw [cd_t (by simp only [ByteArray.size_append]; omega),e_PutText (by omega)]
  simp only [Option.bind_some]
  rw [cd_t (by simp only [ByteArray.size_append]; omega)]
  rfl
def mayT (t:TrT):Prop:=t.2.2.1 = 1∨(t.2.2.1 = 0∧t.2.2.2.1 = 0∧t.2.2.2.2.1 = 0∧t.2.2.2.2.2.1 = ByteArray.empty)
instance (t:TrT):Decidable (mayT t):=by unfold mayT; exact inferInstance
theorem e_may {t:TrT}:F_k75 (t,()) () = some (decide (mayT t),()):=by
  obtain ⟨a,b,c,d,e,f,⟨⟩⟩:=t
  rw [Fe_k75]
  unfold tree_k75 mayT
  simp only [cond_eqi,bytes_beq]
  by_cases h1:c = 1
  · simp [h1]
  · rw [if_neg h1]
    by_cases h2:c = 0
    · rw [if_pos h2]
      by_cases h3:d = 0
      · rw [if_pos h3]
        by_cases h4:e = 0
        · rw [if_pos h4]; simp [h2,h3,h4]
        · rw [if_neg h4]; simp [h1,h4]
      · rw [if_neg h3]; simp [h1,h3]
    · rw [if_neg h2]; simp [h1,h2]
def q1 (s:ByteArray):=takS s
def q2 (s:ByteArray):=takS (q1 s).2.1
def q3 (s:ByteArray):=takS (q2 s).2.1
def q4 (s:ByteArray):=takS (q3 s).2.1
def q5 (s:ByteArray):=takS (q4 s).2.1
def q6 (s:ByteArray):=takT (q5 s).2.1 (q5 s).2.1.size
def trOf (s:ByteArray):TrT:=((q1 s).1,(q2 s).1,(q3 s).1,(q4 s).1,(q5 s).1,(q6 s).1,())
def okP (s:ByteArray):Prop:=((q1 s).2.2 = true∧(q2 s).2.2 = true∧(q3 s).2.2 = true∧(q4 s).2.2 = true∧(q5 s).2.2 = true)∧(q6 s).2.2 = true∧(q6 s).2.1 = ByteArray.empty∧mayT (trOf s)
instance (s:ByteArray):Decidable (okP s):=by unfold okP; exact inferInstance
def parS (s:ByteArray):TrT×Bool:=if okP s then (trOf s,true) else (noT,false)
theorem q_size (s:ByteArray):(q5 s).2.1.size≤s.size :=
  Nat.le_trans (tak_size (s:=(q4 s).2.1)) (Nat.le_trans (tak_size (s:=(q3 s).2.1)) (Nat.le_trans (tak_size (s:=(q2 s).2.1)) (Nat.le_trans (tak_size (s:=(q1 s).2.1)) (tak_size (s:=s)))))
theorem e_Parse {s:ByteArray} (hs:s.size≤281474976710656):F_k68 (s,()) () = some (((parS s).1,(parS s).2,()),()):=by
  rw [Fe_k68]
  unfold tree_k68 parS
  have hq:=q_size s
  rw [e_TakeUint]
  simp only [Option.bind_some]
  have k1:takS s = q1 s:=rfl
  rw [k1]
  cases h1:(q1 s).2.2 with
  | false=>rw [if_neg (fun h=>by have:=h.1.1; rw [h1] at this; cases this)]; rfl
  | true =>
  simp only [Bool.not_true,cond_false]
  rw [e_TakeUint]
  simp only [Option.bind_some]
  have k2:takS (q1 s).2.1 = q2 s:=rfl
  rw [k2]
  cases h2:(q2 s).2.2 with
  | false=>rw [if_neg (fun h=>by have:=h.1.2.1; rw [h2] at this; cases this)]; rfl
  | true =>
  simp only [Bool.not_true,cond_false]
  rw [e_TakeUint]
  simp only [Option.bind_some]
  have k3:takS (q2 s).2.1 = q3 s:=rfl
  rw [k3]
  cases h3:(q3 s).2.2 with
  | false=>rw [if_neg (fun h=>by have:=h.1.2.2.1; rw [h3] at this; cases this)]; rfl
  | true =>
  simp only [Bool.not_true,cond_false]
  rw [e_TakeUint]
  simp only [Option.bind_some]
  have k4:takS (q3 s).2.1 = q4 s:=rfl
  rw [k4]
  cases h4:(q4 s).2.2 with
  | false=>rw [if_neg (fun h=>by have:=h.1.2.2.2.1; rw [h4] at this; cases this)]; rfl
  | true =>
  simp only [Bool.not_true,cond_false]
  rw [e_TakeUint]
  simp only [Option.bind_some]
  have k5:takS (q4 s).2.1 = q5 s:=rfl
  rw [k5]
  cases h5:(q5 s).2.2 with
  | false=>rw [if_neg (fun h=>by have:=h.1.2.2.2.2; rw [h5] at this; cases this)]; rfl
  | true =>
  simp only [Bool.not_true,cond_false]
  rw [e_TakeText (by omega) (by omega)]
  simp only [Option.bind_some]
  have k6:takT (q5 s).2.1 ((q5 s).2.1.size:Int) = q6 s:=rfl
  rw [k6]
  cases h6:(q6 s).2.2 with
  | false=>rw [if_neg (fun h=>by have:=h.2.1; rw [h6] at this; cases this)]; rfl
  | true =>
  simp only [Bool.not_true,cond_false]
  rw [bytes_beq]
  by_cases h7:(q6 s).2.1 = ByteArray.empty
  · rw [decide_eq_true h7]
    simp only [Bool.not_true,cond_false]
    have k7:=e_may (t:=trOf s)
    unfold trOf at k7
    rw [k7]
    simp only [Option.bind_some]
    by_cases h8:mayT (trOf s)
    · rw [if_pos ⟨⟨h1,h2,h3,h4,h5⟩,h6,h7,h8⟩]
      unfold trOf at h8
      rw [decide_eq_true h8]
      rfl
    · rw [if_neg (fun h=>h8 h.2.2.2)]
      unfold trOf at h8
      rw [decide_eq_false h8]
      rfl
  · rw [decide_eq_false h7,if_neg (fun h=>h7 h.2.2.1)]
    rfl
theorem par_text {t:TrT} (h:TrOk t):parS (textB t) = if mayT t then (t,true) else (noT,false):=by
  obtain ⟨a,b,c,d,e,f,⟨⟩⟩:=t
  have hb:=bs_text (a,b,c,d,e,f,())
  dsimp only at hb
  have h1:q1 (textB (a,b,c,d,e,f,())) = (a,⟨(putL b.toNat ++ (putL c.toNat ++ (putL d.toNat ++ (putL e.toNat ++ (putL f.size ++ bs f))))).toArray⟩,true):=by
    have h0:=h.a
    dsimp only at h0
    unfold q1
    rw [tak_put (n:=a.toNat) (by unfold u64I at h0; omega) hb,Int.toNat_of_nonneg h0.1]
  have h2:q2 (textB (a,b,c,d,e,f,())) = (b,⟨(putL c.toNat ++ (putL d.toNat ++ (putL e.toNat ++ (putL f.size ++ bs f)))).toArray⟩,true):=by
    have h0:=h.b
    dsimp only at h0
    unfold q2
    rw [h1,tak_put (n:=b.toNat) (by unfold u64I at h0; omega) (bs_mk _),Int.toNat_of_nonneg h0.1]
  have h3:q3 (textB (a,b,c,d,e,f,())) = (c,⟨(putL d.toNat ++ (putL e.toNat ++ (putL f.size ++ bs f))).toArray⟩,true):=by
    have h0:=h.c
    dsimp only at h0
    unfold q3
    rw [h2,tak_put (n:=c.toNat) (by unfold u64I at h0; omega) (bs_mk _),Int.toNat_of_nonneg h0.1]
  have h4:q4 (textB (a,b,c,d,e,f,())) = (d,⟨(putL e.toNat ++ (putL f.size ++ bs f)).toArray⟩,true):=by
    have h0:=h.d
    dsimp only at h0
    unfold q4
    rw [h3,tak_put (n:=d.toNat) (by unfold u64I at h0; omega) (bs_mk _),Int.toNat_of_nonneg h0.1]
  have h5:q5 (textB (a,b,c,d,e,f,())) = (e,⟨(putL f.size ++ bs f).toArray⟩,true):=by
    have h0:=h.e
    dsimp only at h0
    unfold q5
    rw [h4,tak_put (n:=e.toNat) (by unfold u64I at h0; omega) (bs_mk _),Int.toNat_of_nonneg h0.1]
  have hf:=h.f
  dsimp only at hf
  have h6:q6 (textB (a,b,c,d,e,f,())) = (f,ByteArray.empty,true):=by
    have ht:=tak_put (s:=⟨(putL f.size ++ bs f).toArray⟩) (n:=f.size) (l:=bs f) (by omega) (bs_mk _)
    have hz:(⟨(putL f.size ++ bs f).toArray⟩:ByteArray).size = (putL f.size).length + f.size:=by rw [← bs_len,bs_mk,List.length_append,bs_len]
    have hff:(⟨(bs f).toArray⟩:ByteArray) = f:=bs_inj (bs_mk _)
    unfold q6 takT
    rw [h5]
    dsimp only
    rw [ht,hff]
    rw [if_pos ⟨rfl,by omega,by rw [hz]; dsimp only; omega,by dsimp only; omega⟩]
    have e1:f.extract 0 ((f.size:Int)).toNat = f:=by
      apply bs_inj
      rw [bs_extract,List.drop_zero,List.take_of_length_le (by rw [bs_len]; omega)]
    have e2:f.extract ((f.size:Int)).toNat f.size = ByteArray.empty:=by
      apply bs_inj
      rw [bs_extract,List.drop_of_length_le (by rw [bs_len]; omega),List.take_nil]
      rfl
    rw [e1,e2]
  have ht:trOf (textB (a,b,c,d,e,f,())) = (a,b,c,d,e,f,()):=by
    unfold trOf
    rw [h1,h2,h3,h4,h5,h6]
  unfold parS
  by_cases hm:mayT (a,b,c,d,e,f,())
  · rw [if_pos hm,if_pos ⟨⟨by rw [h1],by rw [h2],by rw [h3],by rw [h4],by rw [h5]⟩,by rw [h6],by rw [h6],by rw [ht]; exact hm⟩,ht]
  · rw [if_neg hm,if_neg (fun hh=>hm (by have:=hh.2.2.2; rw [ht] at this; exact this))]
theorem par_back {s:ByteArray} (hs:s.size≤140737488355328) (h:(parS s).2 = true):s = textB (parS s).1∧TrOk (parS s).1∧mayT (parS s).1:=by
  unfold parS at h ⊢
  by_cases ho:okP s
  · rw [if_pos ho]
    have hqs:=q_size s
    obtain ⟨⟨h1,h2,h3,h4,h5⟩,h6,h7,h8⟩:=ho
    obtain ⟨n1,a1,b1,c1⟩:=tak_back h1
    obtain ⟨n2,a2,b2,c2⟩:=tak_back h2
    obtain ⟨n3,a3,b3,c3⟩:=tak_back h3
    obtain ⟨n4,a4,b4,c4⟩:=tak_back h4
    obtain ⟨n5,a5,b5,c5⟩:=tak_back h5
    have h6':=h6
    unfold q6 takT at h6 h7
    split at h6
    · rename_i hc
      rw [if_pos hc] at h7
      obtain ⟨g1,g2,g3,g4⟩:=hc
      obtain ⟨n6,a6,b6,c6⟩:=tak_back g1
      have hl:(q6 s).1 = (takS (q5 s).2.1).2.1.extract 0 (takS (q5 s).2.1).1.toNat:=by
        unfold q6 takT
        rw [if_pos ⟨g1,g2,g3,g4⟩]
      have hz:n6 = (takS (q5 s).2.1).2.1.size:=by
        have:=congrArg ByteArray.size h7
        simp only [ByteArray.size_extract] at this
        rw [show ByteArray.empty.size = 0 from rfl] at this
        rw [a6] at g4 this
        rw [Int.toNat_natCast] at this
        omega
      have hleaf:(q6 s).1 = (takS (q5 s).2.1).2.1:=by
        rw [hl]
        apply bs_inj
        rw [bs_extract,List.drop_zero,a6,Int.toNat_natCast,List.take_of_length_le (by rw [bs_len]; omega)]
      have e1:(q1 s).1 = (n1:Int):=a1
      have e2:(q2 s).1 = (n2:Int):=a2
      have e3:(q3 s).1 = (n3:Int):=a3
      have e4:(q4 s).1 = (n4:Int):=a4
      have e5:(q5 s).1 = (n5:Int):=a5
      have d1:bs s = putL n1 ++ bs (q1 s).2.1:=c1
      have d2:bs (q1 s).2.1 = putL n2 ++ bs (q2 s).2.1:=c2
      have d3:bs (q2 s).2.1 = putL n3 ++ bs (q3 s).2.1:=c3
      have d4:bs (q3 s).2.1 = putL n4 ++ bs (q4 s).2.1:=c4
      have d5:bs (q4 s).2.1 = putL n5 ++ bs (q5 s).2.1:=c5
      have hsz6:=tak_size (s:=(q5 s).2.1)
      refine ⟨?_,⟨?_,?_,?_,?_,?_,?_⟩,h8⟩
      · apply bs_inj
        rw [bs_text]
        unfold trOf
        dsimp only
        rw [e1,e2,e3,e4,e5,hleaf,d1,d2,d3,d4,d5,c6,hz]
        simp only [Int.toNat_natCast]
      · unfold trOf u64I; dsimp only; omega
      · unfold trOf u64I; dsimp only; omega
      · unfold trOf u64I; dsimp only; omega
      · unfold trOf u64I; dsimp only; omega
      · unfold trOf u64I; dsimp only; omega
      · unfold trOf; dsimp only; rw [hleaf]; omega
    · cases h6
  · rw [if_neg ho] at h; cases h
theorem unf_size {s:ByteArray}:(unfS s).2.1.size≤512:=by
  unfold unfS
  split
  · rename_i h
    have:=h.2.1
    dsimp only
    rw [ByteArray.size_extract]
    omega
  · exact Nat.zero_le _
theorem new_size {a b:Int} {s t:ByteArray}:(newS a b s t).2.2.size≤512:=by
  unfold newS
  split
  · exact unf_size
  · split
    · exact unf_size
    · exact Nat.zero_le _
def trustD (S:List ByteArray) (P:List W2):TrT×Bool:=if (newD S P 0 1).2.1 = 0 then (noT,false) else parS (newD S P 0 1).2.2
theorem trust_ok {S:List ByteArray} {P:List W2} (h:(trustD S P).2 = true):TrOk (trustD S P).1∧mayT (trustD S P).1∧(trustD S P).1.2.2.2.2.2.1.size≤512:=by
  unfold trustD at h ⊢
  split at h
  · cases h
  · rename_i hn
    rw [if_neg hn]
    have hs:=new_size (a:=0) (b:=1) (s:=(readS S P 0).1) (t:=(readS S P 1).1)
    have hs':(newD S P 0 1).2.2.size≤512:=hs
    obtain ⟨h1,h2,h3⟩:=par_back (by omega) h
    refine ⟨h2,h3,?_⟩
    have hz:=congrArg ByteArray.size h1
    unfold textB at hz
    simp only [ByteArray.size_append] at hz
    omega
section
variable {size:Int} {S:List ByteArray} {P:List W2}
theorem e_Trust (hd:DInv size S P):F_k72 () ((),(size,()),S,P,()) = some (((trustD S P).1,(trustD S P).2,()),()):=by
  rw [Fe_k72]
  unfold tree_k72 trustD
  rw [e_Load hd.few]
  simp only [Option.bind_some,cond_eqi]
  have hs':(newD S P 0 1).2.2.size≤512:=new_size
  by_cases hn:(newD S P 0 1).2.1 = 0
  · rw [if_pos hn,if_pos hn]; rfl
  · rw [if_neg hn,if_neg hn,e_Parse (by omega)]
    rfl
def doD (size:Int) (S:List ByteArray) (P:List W2) (o:Option TrT):Bool×List ByteArray×List W2 :=
  match o with
  | none=>(false,S,P)
  | some t=>if (begD size S P 0 1 (textB t)).isSome then (true,flushS size S (P ++ (begD size S P 0 1 (textB t)).toList),[]) else (false,S,P)
theorem e_save {t:TrT} (ht:TrOk t) (hd:DInv size S P) (hl:P.length < 1000000):F_k73 (t,()) ((),(size,()),S,P,()) =
    some ((doD size S P (some t)).1,((),(size,()),(doD size S P (some t)).2.1,(),(doD size S P (some t)).2.2,())):=by
  have he:=e_Text ht
  obtain ⟨a,b,c,d,e,f,⟨⟩⟩:=t
  rw [Fe_k73]
  unfold tree_k73
  rw [he]
  simp only [Option.bind_some]
  rw [e_Save hd hl]
  unfold doD
  simp only [Option.bind_some]
  cases begD size S P 0 1 (textB (a,b,c,d,e,f,())) <;> simp
def resetT (root:Int):TrT:=(root,0,0,0,0,ByteArray.empty,())
theorem u0:u64I 0:=⟨by decide,by decide⟩
theorem u1:u64I 1:=⟨by decide,by decide⟩
theorem reset_ok {root:Int} (h:u64I root):TrOk (resetT root):=⟨h,u0,u0,u0,u0,Nat.zero_le _⟩
def intT (r:TrT×Bool) (sector:Int) (leaf:ByteArray) (next:Int):Option TrT :=
  if r.2 = true∧r.1.2.2.1≠1 then some (r.1.1,r.1.2.1,1,sector,next,leaf,()) else none
def setT (r:TrT×Bool) (happened:Bool):Option TrT :=
  if r.2 = true∧r.1.2.2.1≠0∧¬ (happened = true∧r.1.2.1 = 18446744073709551615) then
    some (if happened = true then (r.1.2.2.2.2.1,r.1.2.1 + 1,0,0,0,ByteArray.empty,()) else (r.1.1,r.1.2.1,0,0,0,ByteArray.empty,())) else none
theorem int_ok {r:TrT×Bool} {sector next:Int} {leaf:ByteArray} {t:TrT} (hr:r.2 = true→TrOk r.1) (h1:u64I sector) (h2:u64I next) (h3:leaf.size≤140737488355328) (h:intT r sector leaf next = some t):TrOk t:=by
  unfold intT at h
  split at h
  · rename_i hc
    cases h
    exact ⟨(hr hc.1).a,(hr hc.1).b,u1,h1,h2,h3⟩
  · cases h
theorem set_ok {r:TrT×Bool} {happened:Bool} {t:TrT} (hr:r.2 = true→TrOk r.1) (h:setT r happened = some t):TrOk t:=by
  unfold setT at h
  split at h
  · rename_i hc
    have k:=hr hc.1
    cases happened with
    | true =>
      simp only [if_true,Option.some.injEq] at h
      subst h
      have hb:=k.b
      have hne:r.1.2.1≠18446744073709551615:=fun e=>hc.2.2 ⟨rfl,e⟩
      exact ⟨k.e,by unfold u64I at hb ⊢; dsimp only; omega,u0,u0,u0,Nat.zero_le _⟩
    | false =>
      simp only [Bool.false_eq_true,if_false,Option.some.injEq] at h
      subst h
      exact ⟨k.a,k.b,u0,u0,u0,Nat.zero_le _⟩
  · cases h
theorem e_Reset {root:Int} (h:u64I root) (hd:DInv size S P) (hl:P.length < 1000000):F_k70 (root,()) ((),(size,()),S,P,()) =
    some ((doD size S P (some (resetT root))).1,((),(size,()),(doD size S P (some (resetT root))).2.1,(),(doD size S P (some (resetT root))).2.2,())):=by
  rw [Fe_k70]
  unfold tree_k70
  have:=e_save (reset_ok h) hd hl
  unfold resetT at this ⊢
  rw [this]
  rfl
theorem e_Intend {sector next:Int} {leaf:ByteArray} (h1:u64I sector) (h2:u64I next) (h3:leaf.size≤140737488355328) (hd:DInv size S P) (hl:P.length < 1000000) :
    F_k69 (sector,leaf,next,()) ((),(size,()),S,P,()) =
    some ((doD size S P (intT (trustD S P) sector leaf next)).1,((),(size,()),(doD size S P (intT (trustD S P) sector leaf next)).2.1,(),(doD size S P (intT (trustD S P) sector leaf next)).2.2,())):=by
  rw [Fe_k69]
  unfold tree_k69
  rw [e_Trust hd]
  simp only [Option.bind_some]
  have hr:(trustD S P).2 = true→TrOk (trustD S P).1:=fun h=>(trust_ok h).1
  cases hb:(trustD S P).2 with
  | false =>
    have:intT (trustD S P) sector leaf next = none:=if_neg (fun h=>by rw [hb] at h; cases h.1)
    rw [this]
    rfl
  | true =>
    simp only [Bool.not_true,cond_false,cond_eqi]
    by_cases hp:(trustD S P).1.2.2.1 = 1
    · have:intT (trustD S P) sector leaf next = none:=if_neg (fun h=>h.2 hp)
      rw [if_pos hp,this]
      rfl
    · have hi:intT (trustD S P) sector leaf next = some ((trustD S P).1.1,(trustD S P).1.2.1,1,sector,next,leaf,()):=if_pos ⟨hb,hp⟩
      rw [if_neg hp,e_save (int_ok hr h1 h2 h3 hi) hd hl,hi]
      rfl
theorem e_Settle {happened:Bool} (hd:DInv size S P) (hl:P.length < 1000000) :
    F_k71 (happened,()) ((),(size,()),S,P,()) =
    some ((doD size S P (setT (trustD S P) happened)).1,((),(size,()),(doD size S P (setT (trustD S P) happened)).2.1,(),(doD size S P (setT (trustD S P) happened)).2.2,())):=by
  rw [Fe_k71]
  unfold tree_k71
  rw [e_Trust hd]
  simp only [Option.bind_some]
  have hr:(trustD S P).2 = true→TrOk (trustD S P).1:=fun h=>(trust_ok h).1
  cases hb:(trustD S P).2 with
  | false =>
    have:setT (trustD S P) happened = none:=if_neg (fun h=>by rw [hb] at h; cases h.1)
    rw [this]
    rfl
  | true =>
    simp only [Bool.not_true,cond_false,cond_eqi]
    by_cases hp:(trustD S P).1.2.2.1 = 0
    · have:setT (trustD S P) happened = none:=if_neg (fun h=>h.2.1 hp)
      rw [if_pos hp,this]
      rfl
    · rw [if_neg hp]
      cases happened with
      | true =>
        simp only [cond_true]
        by_cases hv:(trustD S P).1.2.1 = 18446744073709551615
        · have:setT (trustD S P) true = none:=if_neg (fun h=>h.2.2 ⟨rfl,hv⟩)
          rw [if_pos hv,this]
          rfl
        · have hi:setT (trustD S P) true = some ((trustD S P).1.2.2.2.2.1,(trustD S P).1.2.1 + 1,0,0,0,ByteArray.empty,()):=if_pos ⟨hb,hp,fun h=>hv h.2⟩
          have hvb:=(hr hb).b
          unfold u64I at hvb
          rw [if_neg hv,u64id (n:=(trustD S P).1.2.1 + 1) (by omega) (by omega),e_save (set_ok hr hi) hd hl,hi]
          rfl
      | false =>
        simp only [cond_false]
        have hi:setT (trustD S P) false = some ((trustD S P).1.1,(trustD S P).1.2.1,0,0,0,ByteArray.empty,()):=if_pos ⟨hb,hp,fun h=>by cases h.1⟩
        rw [e_save (set_ok hr hi) hd hl,hi]
        rfl
end
theorem e_Open {size:Int} {S:List ByteArray} {P:List W2}:F_k67 () ((size,()),S,P,()) = if (S.length:Int) < 2 then some (.inl ((),((size,()),S,P,()))) else some (.inr ((),((size,()),S,P,(),()))):=by
  rw [Fe_k67]
  unfold tree_k67
  rw [e_Sectors]
  simp only [Option.bind_some,cond_decide]
end Go.Proofs.Ytljfdfghagiblaa.S2
