/- Sealing,in plain words. -/
import Derived.Test.YtljfdfghagiblaaPoracle
import Derived.Test.YtljfdfghagiblaaGseal
import Derived.Test.YtljfdfghagiblaaPstore
set_option linter.unusedVariables false
set_option linter.unusedSimpArgs false
namespace Go.Proofs.Ytljfdfghagiblaa.S2.Mk
open Go Go.Proofs.Ytljfdfghagiblaa.S2
abbrev eqK:SealK→SealK→Bool:=(Row.ofList [Prim.int IntKind.u64,Prim.int IntKind.u64,Prim.str,Prim.str]).eqb
abbrev eqD:ToldK→ToldK→Bool:=(Row.ofList [Prim.int IntKind.u64,Prim.int IntKind.u64,Prim.int IntKind.u64,Prim.str]).eqb
theorem eqK_l:∀ a b:SealK,eqK a b = true↔a = b:=fun ⟨a1,a2,a3,a4⟩ ⟨b1,b2,b3,b4⟩=>by
  show (a1 == b1 && (a2 == b2 && (a3.toList == b3.toList && a4.toList == b4.toList))) = true↔_
  rw [bytes_beq,bytes_beq]
  simp
theorem eqD_l:∀ a b:ToldK,eqD a b = true↔a = b:=fun ⟨a1,a2,a3,a4⟩ ⟨b1,b2,b3,b4⟩=>by
  show (a1 == b1 && (a2 == b2 && (a3 == b3 && a4.toList == b4.toList))) = true↔_
  rw [bytes_beq]
  simp
def Or.seal (o:Or) (k n:Int) (a p:ByteArray):Int×Or:=match mfind eqK (k,n,a,p) o.seals with
  | some h=>(h,o)
  | none=>(o.fresh.1,{ o.fresh.2 with seals:=mput eqK (k,n,a,p) o.fresh.1 o.fresh.2.seals,plains:=o.fresh.2.plains ++ [p],opens:=if mget eqD 0 (k,n,o.fresh.1,a) o.fresh.2.opens = 0 then mput eqD (k,n,o.fresh.1,a) ((o.fresh.2.plains ++ [p]).length:Int) o.fresh.2.opens else o.fresh.2.opens })
theorem e_Seal (o:Or) (k n:Int) (a p:ByteArray) (h:0≤o.drawn) (hp:o.plains.length < 1000000000):F_k34 (k,n,a,p,()) o.m = some ((o.seal k n a p).1,((o.seal k n a p).2.draws,(o.seal k n a p).2.drawn,(o.seal k n a p).2.bad,()),(o.seal k n a p).2.issued,(o.seal k n a p).2.met,(o.seal k n a p).2.hashes,(o.seal k n a p).2.tags,(o.seal k n a p).2.seals,(o.seal k n a p).2.opens,(),(o.seal k n a p).2.plains,()):=by
  have hf:=e_Fresh o h
  obtain ⟨draws,drawn,bad,issued,met,hashes,tags,seals,opens,plains⟩:=o
  simp only [Or.m,Or.seal] at *
  rw [Fe_k34]
  unfold tree_k34
  cases hm:mfind eqK (k,n,a,p) seals with
  | some v =>
    have e1:(!mhas eqK (k,n,a,p) seals) = false:=by unfold mhas; rw [hm]; rfl
    have e2:mget eqK 0 (k,n,a,p) seals = v:=by unfold mget; rw [hm]; rfl
    refine (c_f e1).trans ?_
    show some (mget eqK 0 (k,n,a,p) seals,_) = _
    rw [e2]
  | none =>
    have e1:(!mhas eqK (k,n,a,p) seals) = true:=by unfold mhas; rw [hm]; rfl
    refine (c_t e1).trans ?_
    rw [hf]
    simp only [Option.bind_some]
    refine (cd_t (by show ((plains.length + 1) * 16≤140737488355328); omega)).trans ?_
    by_cases hq:mget eqD 0 (k,n,(Or.fresh ⟨draws,drawn,bad,issued,met,hashes,tags,seals,opens,plains⟩).1,a) opens = 0
    · refine (c_t (beq_iff_eq.2 hq)).trans ?_
      have hq':mget eqD 0 (k,n,(Or.fresh ⟨draws,drawn,bad,issued,met,hashes,tags,seals,opens,plains⟩).1,a) (Or.fresh ⟨draws,drawn,bad,issued,met,hashes,tags,seals,opens,plains⟩).2.opens = 0:=hq
      simp only [if_pos hq']
      rfl
    · refine (c_f (beq_false_of_ne hq)).trans ?_
      have hq':¬ mget eqD 0 (k,n,(Or.fresh ⟨draws,drawn,bad,issued,met,hashes,tags,seals,opens,plains⟩).1,a) (Or.fresh ⟨draws,drawn,bad,issued,met,hashes,tags,seals,opens,plains⟩).2.opens = 0:=hq
      simp only [if_neg hq']
      rfl
def Or.ms (o:Or):=((o.draws,o.drawn,o.bad,()),o.issued,o.met,o.hashes,o.tags,o.seals,o.opens,(),o.plains,())
def Or.told (o:Or):Prop:=∀ x∈o.opens,0 < x.2∧x.2≤(o.plains.length:Int)
theorem mfind_mem {κ ν:Type} {eq:κ→κ→Bool} {k:κ}:∀ {es:List (κ×ν)} {v:ν},mfind eq k es = some v→∃ e∈es,e.2 = v
  | e :: es,v,h=>by
    simp only [mfind] at h
    split at h
    · cases h; exact ⟨e,List.mem_cons_self,rfl⟩
    · obtain ⟨e',h1,h2⟩:=mfind_mem h
      exact ⟨e',List.mem_cons_of_mem _ h1,h2⟩
def Or.opn (o:Or) (k n:Int) (a:ByteArray) (c:Int):ByteArray×Bool×Or:=match mfind eqD (k,n,c,a) o.opens with
  | some i=>(o.plains.getD (i - 1).toNat ByteArray.empty,true,o)
  | none=>(ByteArray.empty,false,o.meet c)
theorem e_Open (o:Or) (k n:Int) (a:ByteArray) (c:Int) (ht:o.told) (hp:o.plains.length < 1000000000):F_k33 (k,n,a,c,()) o.m = some (((o.opn k n a c).1,(o.opn k n a c).2.1,()),(o.opn k n a c).2.2.m):=by
  have hm:=e_Meet o c
  obtain ⟨draws,drawn,bad,issued,met,hashes,tags,seals,opens,plains⟩:=o
  simp only [Or.m,Or.opn,Or.told] at *
  rw [Fe_k33]
  unfold tree_k33
  cases hq:mfind eqD (k,n,c,a) opens with
  | some i =>
    have e2:mget eqD 0 (k,n,c,a) opens = i:=by unfold mget; rw [hq]; rfl
    obtain ⟨e,he,rfl⟩:=mfind_mem hq
    obtain ⟨h1,h2⟩:=ht e he
    have hw:IntKind.i64.wrap (e.2 - 1) = e.2 - 1:=i64id (by omega) (by omega)
    show cond (decide (mget eqD 0 (k,n,c,a) opens > 0)) _ _ = _
    rw [e2,cd_t (by omega)]
    show cond (decide (0≤IntKind.i64.wrap (mget eqD 0 (k,n,c,a) opens - 1))) (cond (decide (IntKind.i64.wrap (mget eqD 0 (k,n,c,a) opens - 1) < (plains.length:Int))) (some ((plains.getD (0 + (IntKind.i64.wrap (mget eqD 0 (k,n,c,a) opens - 1)).toNat) ByteArray.empty,true,()),_)) none) none = _
    rw [e2,hw,cd_t (by omega),cd_t (by omega),Nat.zero_add]
  | none =>
    have e2:mget eqD 0 (k,n,c,a) opens = 0:=by unfold mget; rw [hq]; rfl
    show cond (decide (mget eqD 0 (k,n,c,a) opens > 0)) _ _ = _
    rw [e2,cd_f (by omega),hm]
    rfl
end Go.Proofs.Ytljfdfghagiblaa.S2.Mk
set_option linter.unusedVariables false
set_option linter.unusedSimpArgs false
namespace Go.Proofs.Ytljfdfghagiblaa.S2
open Go
def fourB (a b c d:Int):ByteArray:=putB a ++ putB b ++ putB c ++ putB d
theorem bs_four (a b c d:Int):bs (fourB a b c d) = putL a.toNat ++ (putL b.toNat ++ (putL c.toNat ++ putL d.toNat)):=by
  unfold fourB
  simp only [bs_append,bs_put,List.append_assoc]
theorem e_four {a b c d:Int} (ha:u64I a) (hb:u64I b) (hc:u64I c) (hd:u64I d):F_k57 (a,b,c,d,()) () = some (fourB a b c d,()):=by
  have s1:=putB_size ha.1 ha.2
  have s2:=putB_size hb.1 hb.2
  have s3:=putB_size hc.1 hc.2
  have s4:=putB_size hd.1 hd.2
  rw [Fe_k57]
  unfold tree_k57
  rw [e_PutUint ha.1 ha.2,e_PutUint hb.1 hb.2,e_PutUint hc.1 hc.2,e_PutUint hd.1 hd.2]
  simp only [Option.bind_some]
  rw [cd_t (by omega),cd_t (by simp only [ByteArray.size_append]; omega),cd_t (by simp only [ByteArray.size_append]; omega)]
  rfl
theorem e_Ad {a b c d:Int} (ha:u64I a) (hb:u64I b) (hc:u64I c) (hd:u64I d):F_k52 (a,b,c,d,()) () = some (fourB a b c d,()):=by
  rw [Fe_k52]
  unfold tree_k52
  rw [e_four ha hb hc hd]
  rfl
theorem e_LText {a b c d:Int} (ha:u64I a) (hb:u64I b) (hc:u64I c) (hd:u64I d):F_k55 ((a,b,c,d,()),()) () = some (fourB a b c d,()):=by
  rw [Fe_k55]
  unfold tree_k55
  rw [e_four ha hb hc hd]
  rfl
def okL (s:ByteArray):Prop:=((q1 s).2.2 = true∧(q2 s).2.2 = true∧(q3 s).2.2 = true∧(q4 s).2.2 = true)∧(q4 s).2.1 = ByteArray.empty
instance (s:ByteArray):Decidable (okL s):=by unfold okL; exact inferInstance
def lfOf (s:ByteArray):Int×Int×Int×Int×Unit:=((q1 s).1,(q2 s).1,(q3 s).1,(q4 s).1,())
def parL (s:ByteArray):(Int×Int×Int×Int×Unit)×Bool:=if okL s then (lfOf s,true) else ((0,0,0,0,()),false)
theorem e_LParse {s:ByteArray}:F_k54 (s,()) () = some (((parL s).1,(parL s).2,()),()):=by
  rw [Fe_k54]
  unfold tree_k54 parL
  rw [e_TakeUint]
  simp only [Option.bind_some]
  have k1:takS s = q1 s:=rfl
  rw [k1]
  cases h1:(q1 s).2.2 with
  | false=>rw [if_neg (fun h=>by have:=h.1.1; rw [h1] at this; cases this)]; rfl
  | true =>
  simp only [Bool.not_true,cond_false]
  rw [e_TakeUint]
  simp only [Option.bind_some]
  have k2:takS (q1 s).2.1 = q2 s:=rfl
  rw [k2]
  cases h2:(q2 s).2.2 with
  | false=>rw [if_neg (fun h=>by have:=h.1.2.1; rw [h2] at this; cases this)]; rfl
  | true =>
  simp only [Bool.not_true,cond_false]
  rw [e_TakeUint]
  simp only [Option.bind_some]
  have k3:takS (q2 s).2.1 = q3 s:=rfl
  rw [k3]
  cases h3:(q3 s).2.2 with
  | false=>rw [if_neg (fun h=>by have:=h.1.2.2.1; rw [h3] at this; cases this)]; rfl
  | true =>
  simp only [Bool.not_true,cond_false]
  rw [e_TakeUint]
  simp only [Option.bind_some]
  have k4:takS (q3 s).2.1 = q4 s:=rfl
  rw [k4]
  cases h4:(q4 s).2.2 with
  | false=>rw [if_neg (fun h=>by have:=h.1.2.2.2; rw [h4] at this; cases this)]; rfl
  | true =>
  simp only [Bool.not_true,cond_false]
  by_cases h7:(q4 s).2.1 = ByteArray.empty
  · rw [if_pos ⟨⟨h1,h2,h3,h4⟩,h7⟩,h7]
    have e:(ByteArray.empty.toList == ByteArray.empty.toList) = true:=bytes_self _
    refine (congrArg (fun b=>bif !b then some (((0,0,0,0,()),false,()),()) else some ((((q1 s).fst,(q2 s).fst,(q3 s).fst,(q4 s).fst,()),true,()),())) e).trans rfl
  · rw [if_neg (fun h=>h7 h.2)]
    have e:((q4 s).2.1.toList == ByteArray.empty.toList) = false:=by rw [bytes_beq,decide_eq_false h7]
    refine (congrArg (fun b=>bif !b then some (((0,0,0,0,()),false,()),()) else some ((((q1 s).fst,(q2 s).fst,(q3 s).fst,(q4 s).fst,()),true,()),())) e).trans rfl
theorem par_four {a b c d:Int} (ha:u64I a) (hb:u64I b) (hc:u64I c) (hd:u64I d):parL (fourB a b c d) = ((a,b,c,d,()),true):=by
  have hs:=bs_four a b c d
  have h1:q1 (fourB a b c d) = (a,⟨(putL b.toNat ++ (putL c.toNat ++ putL d.toNat)).toArray⟩,true):=by
    unfold q1
    rw [tak_put (n:=a.toNat) (by unfold u64I at ha; omega) hs,Int.toNat_of_nonneg ha.1]
  have h2:q2 (fourB a b c d) = (b,⟨(putL c.toNat ++ putL d.toNat).toArray⟩,true):=by
    unfold q2
    rw [h1,tak_put (n:=b.toNat) (by unfold u64I at hb; omega) (bs_mk _),Int.toNat_of_nonneg hb.1]
  have h3:q3 (fourB a b c d) = (c,⟨(putL d.toNat).toArray⟩,true):=by
    unfold q3
    rw [h2,tak_put (n:=c.toNat) (by unfold u64I at hc; omega) (bs_mk _),Int.toNat_of_nonneg hc.1]
  have h4:q4 (fourB a b c d) = (d,⟨([]:List UInt8).toArray⟩,true):=by
    unfold q4
    rw [h3,tak_put (n:=d.toNat) (l:=[]) (by unfold u64I at hd; omega) (by rw [List.append_nil]; exact bs_mk _),Int.toNat_of_nonneg hd.1]
  unfold parL
  rw [if_pos ⟨⟨by rw [h1],by rw [h2],by rw [h3],by rw [h4]⟩,by rw [h4]; rfl⟩]
  unfold lfOf
  rw [h1,h2,h3,h4]
end Go.Proofs.Ytljfdfghagiblaa.S2
set_option linter.unusedVariables false
set_option linter.unusedSimpArgs false
namespace Go.Proofs.Ytljfdfghagiblaa.S2.Mk
open Go Go.Proofs.Ytljfdfghagiblaa.S2
theorem fresh_drawn {o:Or} (h:0≤o.drawn) (h':o.drawn < 1000000000):o.fresh.2.drawn = o.drawn + 1:=by
  show IntKind.i64.wrap (o.drawn + 1) = _
  exact Mk.i64id (by omega) (by omega)
def Or.lock (o:Or) (key volume sector version epoch:Int) (p:ByteArray):Int×Int×Or :=
  (o.fresh.1,o.fresh.2.seal key o.fresh.1 (fourB volume sector version epoch) p)
theorem e_Lock (o:Or) {key volume sector version epoch:Int} {p:ByteArray} (hv:u64I volume) (hs:u64I sector) (hw:u64I version) (he:u64I epoch) (h:0≤o.drawn) (hd:o.drawn < 1000000000) (hp:o.plains.length < 1000000000) :
    F_k53 (key,volume,sector,version,epoch,p,()) o.m = some ((version,epoch,(o.lock key volume sector version epoch p).1,(o.lock key volume sector version epoch p).2.1,()),(o.lock key volume sector version epoch p).2.2.ms):=by
  have hf:=e_Fresh o h
  have hS:=e_Seal o.fresh.2 key o.fresh.1 (fourB volume sector version epoch) p (by rw [fresh_drawn h hd]; omega) hp
  obtain ⟨draws,drawn,bad,issued,met,hashes,tags,seals,opens,plains⟩:=o
  simp only [Or.m] at hf
  show F_k53 _ ((draws,drawn,bad,()),issued,met,hashes,tags,seals,opens,plains,()) = _
  rw [Fe_k53]
  unfold tree_k53
  rw [hf]
  simp only [Option.bind_some]
  rw [e_Ad hv hs hw he]
  simp only [Option.bind_some]
  refine (congrArg (fun x=>Option.bind x _) hS).trans ?_
  rfl
theorem e_Unlock (o:Or) {key volume sector version epoch nonce c:Int} (hv:u64I volume) (hs:u64I sector) (hw:u64I version) (he:u64I epoch) (ht:o.told) (hp:o.plains.length < 1000000000) :
    F_k56 (key,volume,sector,(version,epoch,nonce,c,()),()) o.m = some (((o.opn key nonce (fourB volume sector version epoch) c).1,(o.opn key nonce (fourB volume sector version epoch) c).2.1,()),(o.opn key nonce (fourB volume sector version epoch) c).2.2.m):=by
  have hO:=e_Open o key nonce (fourB volume sector version epoch) c ht hp
  obtain ⟨draws,drawn,bad,issued,met,hashes,tags,seals,opens,plains⟩:=o
  show F_k56 _ ((draws,drawn,bad,()),issued,met,hashes,tags,seals,opens,plains,()) = _
  rw [Fe_k56]
  unfold tree_k56
  rw [e_Ad hv hs hw he]
  simp only [Option.bind_some]
  refine (congrArg (fun x=>Option.bind x _) hO).trans ?_
  rfl
end Go.Proofs.Ytljfdfghagiblaa.S2.Mk
