/- Sealing,in plain words. -/
import Derived.Test.YtljfdfghagiblaaGreatPoracle
import Derived.Test.YtljfdfghagiblaaGreatGseal
import Derived.Test.YtljfdfghagiblaaGreatPstore
namespace Go.Proofs.YtljfdfghagiblaaGreat.S2.Mk
open Go Go.Proofs.YtljfdfghagiblaaGreat.S2
abbrev GY:Ek->Ek->Bool:=(aw.ofList [ak.int IntKind.u64,ak.int IntKind.u64,ak.str,ak.str]).eqb
abbrev oJ:BP->BP->Bool:=(aw.ofList [ak.int IntKind.u64,ak.int IntKind.u64,ak.int IntKind.u64,ak.str]).eqb
theorem atm:∀ a b:Ek,GY a b=true↔a=b:=fun ⟨a1,a2,a3,a4⟩ ⟨b1,b2,b3,b4⟩=>by
 show (a1==b1&&(a2==b2&&(a3.toList==b3.toList&&a4.toList==b4.toList)))=true↔_
 rw [ci,ci]
 simp
theorem akE:∀ a b:BP,oJ a b=true↔a=b:=fun ⟨a1,a2,a3,a4⟩ ⟨b1,b2,b3,b4⟩=>by
 show (a1==b1&&(a2==b2&&(a3==b3&&a4.toList==b4.toList)))=true↔_
 rw [ci]
 simp
def Or.seal (o:Or) (k n:Int) (a p:ByteArray):Int×Or:=match aG GY (k,n,a,p) o.seals with
 | some h=>(h,o)
 | none=>(o.fresh.1,{ o.fresh.2 with seals:=cx GY (k,n,a,p) o.fresh.1 o.fresh.2.seals,plains:=o.fresh.2.plains++[p],opens:=if aV oJ 0 (k,n,o.fresh.1,a) o.fresh.2.opens=0 then cx oJ (k,n,o.fresh.1,a) ((o.fresh.2.plains++[p]).length:Int) o.fresh.2.opens else o.fresh.2.opens })
theorem azi (o:Or) (k n:Int) (a p:ByteArray) (h:0<=o.drawn) (hp:o.plains.length<1000000000):wA (k,n,a,p,()) o.m=some ((o.seal k n a p).1,((o.seal k n a p).2.draws,(o.seal k n a p).2.drawn,(o.seal k n a p).2.bad,()),(o.seal k n a p).2.issued,(o.seal k n a p).2.met,(o.seal k n a p).2.hashes,(o.seal k n a p).2.tags,(o.seal k n a p).2.seals,(o.seal k n a p).2.opens,(),(o.seal k n a p).2.plains,()):=by
 have hf:=Pp o h
 obtain ⟨draws,drawn,bad,issued,met,hashes,tags,seals,opens,plains⟩:=o
 simp only [Or.m,Or.seal] at *
 rw [auT]
 unfold sA
 cases hm:aG GY (k,n,a,p) seals with
 | some v =>
  have e1:(!BY GY (k,n,a,p) seals)=false:=by unfold BY; rw [hm]; rfl
  have e2:aV GY 0 (k,n,a,p) seals=v:=by unfold aV; rw [hm]; rfl
  refine (eu e1).trans ?_
  show some (aV GY 0 (k,n,a,p) seals,_)=_
  rw [e2]
 | none =>
  have e1:(!BY GY (k,n,a,p) seals)=true:=by unfold BY; rw [hm]; rfl
  refine (eC e1).trans ?_
  rw [hf]
  simp only [Option.bind_some]
  refine (ap (by show ((plains.length+1)*16<=140737488355328); omega)).trans ?_
  by_cases hq:aV oJ 0 (k,n,(Or.fresh ⟨draws,drawn,bad,issued,met,hashes,tags,seals,opens,plains⟩).1,a) opens=0
  ·refine (eC (beq_iff_eq.2 hq)).trans ?_
   have hq':aV oJ 0 (k,n,(Or.fresh ⟨draws,drawn,bad,issued,met,hashes,tags,seals,opens,plains⟩).1,a) (Or.fresh ⟨draws,drawn,bad,issued,met,hashes,tags,seals,opens,plains⟩).2.opens=0:=hq
   simp only [if_pos hq']
   rfl
  ·refine (eu (beq_false_of_ne hq)).trans ?_
   have hq':¬ aV oJ 0 (k,n,(Or.fresh ⟨draws,drawn,bad,issued,met,hashes,tags,seals,opens,plains⟩).1,a) (Or.fresh ⟨draws,drawn,bad,issued,met,hashes,tags,seals,opens,plains⟩).2.opens=0:=hq
   simp only [if_neg hq']
   rfl
def Or.ms (o:Or):=((o.draws,o.drawn,o.bad,()),o.issued,o.met,o.hashes,o.tags,o.seals,o.opens,(),o.plains,())
def Or.told (o:Or):Prop:=∀ x∈o.opens,0<x.2/\x.2<=(o.plains.length:Int)
theorem mV {κ ν:Type} {eq:κ->κ->Bool} {k:κ}:∀ {es:List (κ×ν)} {v:ν},aG eq k es=some v->∃ e∈es,e.2=v
 | e::es,v,h=>by
  simp only [aG] at h
  split at h
  ·cases h; exact ⟨e,List.mem_cons_self,rfl⟩
  ·obtain ⟨e',h1,h2⟩:=mV h
   exact ⟨e',List.mem_cons_of_mem _ h1,h2⟩
def Or.opn (o:Or) (k n:Int) (a:ByteArray) (c:Int):ByteArray×Bool×Or:=match aG oJ (k,n,c,a) o.opens with
 | some i=>(o.plains.getD (i-1).toNat eB,true,o)
 | none=>(eB,false,o.meet c)
theorem Jl (o:Or) (k n:Int) (a:ByteArray) (c:Int) (ht:o.told) (hp:o.plains.length<1000000000):wB (k,n,a,c,()) o.m=some (((o.opn k n a c).1,(o.opn k n a c).2.1,()),(o.opn k n a c).2.2.m):=by
 have hm:=Gh o c
 obtain ⟨draws,drawn,bad,issued,met,hashes,tags,seals,opens,plains⟩:=o
 simp only [Or.m,Or.opn,Or.told] at *
 rw [auU]
 unfold sB
 cases hq:aG oJ (k,n,c,a) opens with
 | some i =>
  have e2:aV oJ 0 (k,n,c,a) opens=i:=by unfold aV; rw [hq]; rfl
  obtain ⟨e,he,rfl⟩:=mV hq
  obtain ⟨h1,h2⟩:=ht e he
  have hw:IntKind.i64.wrap (e.2-1)=e.2-1:=aQ (by omega) (by omega)
  show cond (decide (aV oJ 0 (k,n,c,a) opens>0)) _ _=_
  rw [e2,ap (by omega)]
  show cond (decide (0<=IntKind.i64.wrap (aV oJ 0 (k,n,c,a) opens-1))) (cond (decide (IntKind.i64.wrap (aV oJ 0 (k,n,c,a) opens-1)<(plains.length:Int))) (some ((plains.getD (0+(IntKind.i64.wrap (aV oJ 0 (k,n,c,a) opens-1)).toNat) eB,true,()),_)) none) none=_
  rw [e2,hw,ap (by omega),ap (by omega),Nat.zero_add]
 | none =>
  have e2:aV oJ 0 (k,n,c,a) opens=0:=by unfold aV; rw [hq]; rfl
  show cond (decide (aV oJ 0 (k,n,c,a) opens>0)) _ _=_
  rw [e2,bq (by omega),hm]
  rfl
end Go.Proofs.YtljfdfghagiblaaGreat.S2.Mk
namespace Go.Proofs.YtljfdfghagiblaaGreat.S2
open Go
def ch (a b c d:Int):ByteArray:=oD a++oD b++oD c++oD d
theorem aop (a b c d:Int):bs (ch a b c d)=bJ a.toNat++(bJ b.toNat++(bJ c.toNat++bJ d.toNat)):=by
 unfold ch
 simp only [gA,sE,List.append_assoc]
theorem akF {a b c d:Int} (ha:aH a) (hb:aH b) (hc:aH c) (hd:aH d):dV (a,b,c,d,()) ()=some (ch a b c d,()):=by
 have s1:=aM ha.1 ha.2
 have s2:=aM hb.1 hb.2
 have s3:=aM hc.1 hc.2
 have s4:=aM hd.1 hd.2
 rw [amp]
 unfold ma
 rw [dQ ha.1 ha.2,dQ hb.1 hb.2,dQ hc.1 hc.2,dQ hd.1 hd.2]
 simp only [Option.bind_some]
 rw [ap (by omega),ap (by simp only [ByteArray.size_append]; omega),ap (by simp only [ByteArray.size_append]; omega)]
 rfl
theorem aFV {a b c d:Int} (ha:aH a) (hb:aH b) (hc:aH c) (hd:aH d):dW (a,b,c,d,()) ()=some (ch a b c d,()):=by
 rw [amq]
 unfold mb
 rw [akF ha hb hc hd]
 rfl
theorem aon {a b c d:Int} (ha:aH a) (hb:aH b) (hc:aH c) (hd:aH d):oz ((a,b,c,d,()),()) ()=some (ch a b c d,()):=by
 rw [amr]
 unfold mc
 rw [akF ha hb hc hd]
 rfl
def okL (s:ByteArray):Prop:=((q1 s).2.2=true/\(q2 s).2.2=true/\(q3 s).2.2=true/\(q4 s).2.2=true)/\(q4 s).2.1=eB
instance (s:ByteArray):Decidable (okL s):=by unfold okL; exact inferInstance
def azg (s:ByteArray):Int×Int×Int×Int×Unit:=((q1 s).1,(q2 s).1,(q3 s).1,(q4 s).1,())
def bL (s:ByteArray):(Int×Int×Int×Int×Unit)×Bool:=if okL s then (azg s,true) else ((0,0,0,0,()),false)
theorem RB {s:ByteArray}:dT (s,()) ()=some (((bL s).1,(bL s).2,()),()):=by
 rw [ams]
 unfold mf bL
 rw [fx]
 simp only [Option.bind_some]
 have k1:bQ s=q1 s:=rfl
 rw [k1]
 cases h1:(q1 s).2.2 with
 | false=>rw [if_neg (fun h=>by have:=h.1.1; rw [h1] at this; cases this)]; rfl
 | true =>
 simp only [Bool.not_true,cond_false]
 rw [fx]
 simp only [Option.bind_some]
 have k2:bQ (q1 s).2.1=q2 s:=rfl
 rw [k2]
 cases h2:(q2 s).2.2 with
 | false=>rw [if_neg (fun h=>by have:=h.1.2.1; rw [h2] at this; cases this)]; rfl
 | true =>
 simp only [Bool.not_true,cond_false]
 rw [fx]
 simp only [Option.bind_some]
 have k3:bQ (q2 s).2.1=q3 s:=rfl
 rw [k3]
 cases h3:(q3 s).2.2 with
 | false=>rw [if_neg (fun h=>by have:=h.1.2.2.1; rw [h3] at this; cases this)]; rfl
 | true =>
 simp only [Bool.not_true,cond_false]
 rw [fx]
 simp only [Option.bind_some]
 have k4:bQ (q3 s).2.1=q4 s:=rfl
 rw [k4]
 cases h4:(q4 s).2.2 with
 | false=>rw [if_neg (fun h=>by have:=h.1.2.2.2; rw [h4] at this; cases this)]; rfl
 | true =>
 simp only [Bool.not_true,cond_false]
 by_cases h7:(q4 s).2.1=eB
 ·rw [if_pos ⟨⟨h1,h2,h3,h4⟩,h7⟩,h7]
  have e:(eB.toList==eB.toList)=true:=fw _
  refine (congrArg (fun b=>bif !b then some (((0,0,0,0,()),false,()),()) else some ((((q1 s).fst,(q2 s).fst,(q3 s).fst,(q4 s).fst,()),true,()),())) e).trans rfl
 ·rw [if_neg (fun h=>h7 h.2)]
  have e:((q4 s).2.1.toList==eB.toList)=false:=by rw [ci,decide_eq_false h7]
  refine (congrArg (fun b=>bif !b then some (((0,0,0,0,()),false,()),()) else some ((((q1 s).fst,(q2 s).fst,(q3 s).fst,(q4 s).fst,()),true,()),())) e).trans rfl
theorem Ei {a b c d:Int} (ha:aH a) (hb:aH b) (hc:aH c) (hd:aH d):bL (ch a b c d)=((a,b,c,d,()),true):=by
 have hs:=aop a b c d
 have h1:q1 (ch a b c d)=(a,⟨(bJ b.toNat++(bJ c.toNat++bJ d.toNat)).toArray⟩,true):=by
  unfold q1
  rw [ng (n:=a.toNat) (by unfold aH at ha; omega) hs,Int.toNat_of_nonneg ha.1]
 have h2:q2 (ch a b c d)=(b,⟨(bJ c.toNat++bJ d.toNat).toArray⟩,true):=by
  unfold q2
  rw [h1,ng (n:=b.toNat) (by unfold aH at hb; omega) (ug _),Int.toNat_of_nonneg hb.1]
 have h3:q3 (ch a b c d)=(c,⟨(bJ d.toNat).toArray⟩,true):=by
  unfold q3
  rw [h2,ng (n:=c.toNat) (by unfold aH at hc; omega) (ug _),Int.toNat_of_nonneg hc.1]
 have h4:q4 (ch a b c d)=(d,⟨([]:List UInt8).toArray⟩,true):=by
  unfold q4
  rw [h3,ng (n:=d.toNat) (l:=[]) (by unfold aH at hd; omega) (by rw [List.append_nil]; exact ug _),Int.toNat_of_nonneg hd.1]
 unfold bL
 rw [if_pos ⟨⟨by rw [h1],by rw [h2],by rw [h3],by rw [h4]⟩,by rw [h4]; rfl⟩]
 unfold azg
 rw [h1,h2,h3,h4]
end Go.Proofs.YtljfdfghagiblaaGreat.S2
namespace Go.Proofs.YtljfdfghagiblaaGreat.S2.Mk
open Go Go.Proofs.YtljfdfghagiblaaGreat.S2
theorem RF {o:Or} (h:0<=o.drawn) (h':o.drawn<1000000000):o.fresh.2.drawn=o.drawn+1:=by
 show IntKind.i64.wrap (o.drawn+1)=_
 exact Mk.aQ (by omega) (by omega)
def Or.lock (o:Or) (key volume sector version epoch:Int) (p:ByteArray):Int×Int×Or :=
 (o.fresh.1,o.fresh.2.seal key o.fresh.1 (ch volume sector version epoch) p)
theorem azh (o:Or) {key volume sector version epoch:Int} {p:ByteArray} (hv:aH volume) (hs:aH sector) (hw:aH version) (he:aH epoch) (h:0<=o.drawn) (hd:o.drawn<1000000000) (hp:o.plains.length<1000000000) :
  lX (key,volume,sector,version,epoch,p,()) o.m=some ((version,epoch,(o.lock key volume sector version epoch p).1,(o.lock key volume sector version epoch p).2.1,()),(o.lock key volume sector version epoch p).2.2.ms):=by
 have hf:=Pp o h
 have hS:=azi o.fresh.2 key o.fresh.1 (ch volume sector version epoch) p (by rw [RF h hd]; omega) hp
 obtain ⟨draws,drawn,bad,issued,met,hashes,tags,seals,opens,plains⟩:=o
 simp only [Or.m] at hf
 show lX _ ((draws,drawn,bad,()),issued,met,hashes,tags,seals,opens,plains,())=_
 rw [amt]
 unfold mg
 rw [hf]
 simp only [Option.bind_some]
 rw [aFV hv hs hw he]
 simp only [Option.bind_some]
 refine (congrArg (fun x=>Option.bind x _) hS).trans ?_
 rfl
theorem akC (o:Or) {key volume sector version epoch nonce c:Int} (hv:aH volume) (hs:aH sector) (hw:aH version) (he:aH epoch) (ht:o.told) (hp:o.plains.length<1000000000) :
  lW (key,volume,sector,(version,epoch,nonce,c,()),()) o.m=some (((o.opn key nonce (ch volume sector version epoch) c).1,(o.opn key nonce (ch volume sector version epoch) c).2.1,()),(o.opn key nonce (ch volume sector version epoch) c).2.2.m):=by
 have hO:=Jl o key nonce (ch volume sector version epoch) c ht hp
 obtain ⟨draws,drawn,bad,issued,met,hashes,tags,seals,opens,plains⟩:=o
 show lW _ ((draws,drawn,bad,()),issued,met,hashes,tags,seals,opens,plains,())=_
 rw [amu]
 unfold mh
 rw [aFV hv hs hw he]
 simp only [Option.bind_some]
 refine (congrArg (fun x=>Option.bind x _) hO).trans ?_
 rfl
end Go.Proofs.YtljfdfghagiblaaGreat.S2.Mk
