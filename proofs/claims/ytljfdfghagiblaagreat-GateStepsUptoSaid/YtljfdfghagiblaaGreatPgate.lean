/- Slots on two sectors: saves,one behind the other,and crashes. -/
import Derived.Test.YtljfdfghagiblaaGreatPslot
import Derived.Test.YtljfdfghagiblaaGreatPstore
import Derived.Test.YtljfdfghagiblaaGreatPlock
import Derived.Test.YtljfdfghagiblaaGreatPmk2
import Derived.Test.YtljfdfghagiblaaGreatGgate
namespace Go.Proofs.YtljfdfghagiblaaGreat.S2
open Go
theorem G9 (s t:ByteArray):(gC 0 1 s t).1=0∨(gC 0 1 s t).1=1:=by
 unfold gC
 split
 ·exact .inr rfl
 ·split
  ·exact .inl rfl
  ·exact .inr rfl
theorem aci (s t:ByteArray):((cI s).2.2=true->(cI s).1<=(gC 0 1 s t).2.1)/\((cI t).2.2=true->(cI t).1<=(gC 0 1 s t).2.1):=by
 unfold gC
 cases h1:(cI t).2.2<;>cases h2:(cI s).2.2<;>simp
 split<;>dsimp only<;>omega
theorem ak9 {f t:ByteArray} {n:Int} {u:ByteArray} (hf:cI f=(n,u,true)) (ht:(cI t).2.2=true->(cI t).1<=n):gC 0 1 f t=(0,n,u):=by
 unfold gC
 rw [hf]
 rw [if_neg,if_pos rfl]
 rintro ⟨h1,h2⟩
 have:=ht h1
 dsimp only at h2
 rcases h2 with h2 | h2
 ·cases h2
 ·omega
theorem ala {f s:ByteArray} {n:Int} {u:ByteArray} (hf:cI f=(n,u,true)) (hs:(cI s).2.2=true->(cI s).1<n):gC 0 1 s f=(1,n,u):=by
 unfold gC
 rw [hf]
 rw [if_pos]
 refine ⟨rfl,?_⟩
 cases h:(cI s).2.2
 ·exact .inl rfl
 ·exact .inr (hs h)
structure Two (size:Int) (s0 s1:ByteArray):Prop where
 lo:32<=size
 hi:size<=512
 h0:(s0.size:Int)=size
 h1:(s1.size:Int)=size
theorem Two.D {size:Int} {s0 s1:ByteArray} (h:Two size s0 s1):ca size [s0,s1] [] :=
 ⟨h.lo,h.hi,by simp,fun s hs=>by simp at hs; rcases hs with rfl | rfl; exact h.h0; exact h.h1,fun p hp=>(by cases hp),by simp⟩
theorem ati (s0 s1:ByteArray):dm [s0,s1] [] 0 1=gC 0 1 s0 s1:=rfl
theorem okG {size n:Int} {t:ByteArray} (lo:32<=size) (hi:size<=512) (hn:0<=n):R3 (n+1) t size↔(t.size:Int)<=size-18:=by
 unfold R3
 constructor
 ·intro h; exact h.2.2.2
 ·intro h; exact ⟨lo,hi,by omega,h⟩
theorem aFZ {size:Int} {s0 s1 t:ByteArray} (h:Two size s0 s1) (hn:(gC 0 1 s0 s1).2.1<18446744073709551615) :
  sJ size [s0,s1] [] 0 1 t=if (t.size:Int)<=size-18 then some (if (gC 0 1 s0 s1).1=0 then 1 else 0,d8 ((gC 0 1 s0 s1).2.1+1) t size) else none:=by
 have h0:=(Ev 0 1 s0 s1).1
 unfold sJ
 rw [ati]
 by_cases ht:(t.size:Int)<=size-18
 ·rw [if_pos ht,if_pos ⟨by simp,by omega,(okG h.lo h.hi h0).2 ht⟩]
 ·rw [if_neg ht,if_neg (fun hh=>ht ((okG h.lo h.hi h0).1 hh.2.2))]
theorem aF0 (c:Nat->Nat) (f s0 s1:ByteArray):jl c 0 [s0,s1] [(0,f)]=[f.extract 0 (c 0)++s0.extract (c 0) s0.size,s1]:=rfl
theorem aF1 (c:Nat->Nat) (f s0 s1:ByteArray):jl c 0 [s0,s1] [(1,f)]=[s0,f.extract 0 (c 0)++s1.extract (c 0) s1.size]:=rfl
theorem Sd {size:Int} {f s:ByteArray} (hf:(f.size:Int)=size) (hs:(s.size:Int)=size):f.extract 0 size.toNat++s.extract size.toNat s.size=f:=by
 rw [aoK (by omega),ak4 (by omega)]
 apply dF
 rw [gA]
 simp [bs]
theorem aGW {size:Int} {f s0 s1:ByteArray} (h:Two size s0 s1) (hf:(f.size:Int)=size):xD size [s0,s1] [(0,f)]=[f,s1]:=by
 have:=h.lo
 unfold xD
 rw [aF0,JN (by omega)]
 show [f.extract 0 size.toNat++s0.extract size.toNat s0.size,s1]=_
 rw [Sd hf h.h0]
theorem aGX {size:Int} {f s0 s1:ByteArray} (h:Two size s0 s1) (hf:(f.size:Int)=size):xD size [s0,s1] [(1,f)]=[s0,f]:=by
 have:=h.lo
 unfold xD
 rw [aF1,JN (by omega)]
 show [s0,f.extract 0 size.toNat++s1.extract size.toNat s1.size]=_
 rw [Sd hf h.h1]
def PA (size:Int) (s0 s1 t:ByteArray):List ByteArray :=
 if (t.size:Int)<=size-18 then (if (gC 0 1 s0 s1).1=0 then [s0,d8 ((gC 0 1 s0 s1).2.1+1) t size] else [d8 ((gC 0 1 s0 s1).2.1+1) t size,s1]) else [s0,s1]
theorem Rl {size:Int} {s0 s1 t:ByteArray} (h:Two size s0 s1) (hn:(gC 0 1 s0 s1).2.1<18446744073709551615) :
  (sJ size [s0,s1] [] 0 1 t).isSome=decide ((t.size:Int)<=size-18)/\((t.size:Int)<=size-18->xD size [s0,s1] ([]++(sJ size [s0,s1] [] 0 1 t).toList)=PA size s0 s1 t):=by
 have hl:=Ev 0 1 s0 s1
 rw [aFZ h hn]
 by_cases ht:(t.size:Int)<=size-18
 ·have hok:=(okG (t:=t) h.lo h.hi hl.1).2 ht
  have hf:=ic hok
  unfold PA
  simp only [if_pos ht,decide_eq_true ht,Option.isSome_some,List.nil_append,Option.toList_some]
  refine ⟨trivial,fun _=>?_⟩
  rcases G9 s0 s1 with hw | hw
  ·simp only [if_pos hw]; exact aGX h hf
  ·simp only [if_neg (show ¬ (gC 0 1 s0 s1).1=0 by rw [hw]; decide)]; exact aGW h hf
 ·rw [if_neg ht,decide_eq_false ht]
  exact ⟨rfl,fun hh=>absurd hh ht⟩
structure uc (size:Int) (S:List ByteArray) (n:Int) (last:ByteArray):Prop where
 ex:∃ s0 s1 n0 t0 n1 t1,S=[s0,s1]/\aoO size s0 n0 t0/\aoO size s1 n1 t1/\n0<=n/\n1<=n/\(gC 0 1 s0 s1).2=(n,last)
theorem Gd {size:Int} (lo:32<=size) (hi:size<=512):uc size (List.replicate (2:Int).toNat (dZ size.toNat)) 0 eB:=by
 have hz:=ace lo hi eB
 refine ⟨_,_,0,eB,0,eB,rfl,hz,hz,by decide,by decide,?_⟩
 have hs:=hz.says
 unfold gC
 rw [hs]
 rfl
theorem uc.two {size:Int} {S:List ByteArray} {n:Int} {last:ByteArray} (h:uc size S n last):∃ s0 s1,S=[s0,s1]/\Two size s0 s1/\(gC 0 1 s0 s1).2=(n,last):=by
 obtain ⟨s0,s1,n0,t0,n1,t1,rfl,k0,k1,l0,l1,hw⟩:=h
 exact ⟨s0,s1,rfl,⟨k0.lo,k0.hi,k0.sz,k1.sz⟩,hw⟩
theorem uc.n0 {size:Int} {S:List ByteArray} {n:Int} {last:ByteArray} (h:uc size S n last):0<=n:=by
 obtain ⟨s0,s1,n0,t0,n1,t1,rfl,k0,k1,l0,l1,hw⟩:=h
 have:=k0.n0
 omega
theorem Rm {size:Int} {s0 s1 t:ByteArray} {n:Int} {last:ByteArray} (h:uc size [s0,s1] n last) (hn:n<18446744073709551615) (ht:(t.size:Int)<=size-18):uc size (PA size s0 s1 t) (n+1) t:=by
 obtain ⟨r0,r1,n0,t0,n1,t1,he,k0,k1,l0,l1,hw⟩:=h
 simp at he
 obtain ⟨rfl,rfl⟩:=he
 have hw1:(gC 0 1 s0 s1).2.1=n:=by rw [hw]
 have hl:=Ev 0 1 s0 s1
 have hx:=aci s0 s1
 rw [hw1] at hl hx
 have hok:=(okG (t:=t) k0.lo k0.hi hl.1).2 ht
 have hu:=LG hok (by omega) (by omega)
 have hfr:=Va hok (by omega) (by omega)
 unfold PA
 rw [if_pos ht,hw1]
 rcases G9 s0 s1 with hwh | hwh
 ·rw [if_pos hwh]
  exact ⟨_,_,_,_,_,_,rfl,k0,hfr,by omega,Int.le_refl _,by rw [ala hu (fun hv=>by have:=hx.1 hv; omega)]⟩
 ·rw [if_neg (by rw [hwh]; decide)]
  exact ⟨_,_,_,_,_,_,rfl,hfr,k1,Int.le_refl _,by omega,by rw [ak9 hu (fun hv=>by have:=hx.2 hv; omega)]⟩
structure yi (size:Int) (S:List ByteArray) (n:Int) (t:jk):Prop where
 slot:uc size S n (en t)
 pos:0<n
 ok:tf t
 may:zj t
theorem yi.trust {size:Int} {S:List ByteArray} {n:Int} {t:jk} (h:yi size S n t):ag S []=(t,true):=by
 obtain ⟨s0,s1,rfl,htwo,hw⟩:=h.slot.two
 have hp:=h.pos
 unfold ag
 rw [ati,hw]
 dsimp only
 rw [if_neg (by omega),ako h.ok,if_pos h.may]
theorem aae {size:Int} {S:List ByteArray} {n:Int} {last:ByteArray} {u:jk} (h:uc size S n last) (hn:n<1000000) (ho:tf u) (hm:zj u) :
  ∃ S',gP size S [] (some u)=(decide (((en u).size:Int)<=size-18),S',[])/\(((en u).size:Int)<=size-18->yi size S' (n+1) u)/\(¬ ((en u).size:Int)<=size-18->S'=S):=by
 have h':=h
 have hn0:=h.n0
 obtain ⟨s0,s1,rfl,htwo,hw⟩:=h'.two
 have hw1:(gC 0 1 s0 s1).2.1=n:=by rw [hw]
 obtain ⟨h1,h2⟩:=Rl (t:=en u) htwo (by omega)
 unfold gP
 dsimp only
 rw [h1]
 by_cases ht:((en u).size:Int)<=size-18
 ·rw [decide_eq_true ht,if_pos rfl,h2 ht]
  exact ⟨_,rfl,fun _=>⟨Rm h (by omega) ht,by omega,ho,hm⟩,fun hh=>absurd ht hh⟩
 ·rw [decide_eq_false ht,if_neg (by decide)]
  exact ⟨_,rfl,fun hh=>absurd hh ht,fun _=>rfl⟩
def Lb (size:Int) (t:jk) (o:Option jk):Bool×jk :=
 match o with
 | some u=>if ((en u).size:Int)<=size-18 then (true,u) else (false,t)
 | none=>(false,t)
theorem aoc {size:Int} {S:List ByteArray} {n:Int} {t:jk} (h:yi size S n t) (hn:n<1000000) {o:Option jk} (ho:∀ u,o=some u->tf u/\zj u) :
  ∃ S' n',gP size S [] o=((Lb size t o).1,S',[])/\yi size S' n' (Lb size t o).2/\n'<=n+1/\((Lb size t o).1=false->S'=S/\(Lb size t o).2=t):=by
 cases o with
 | none=>exact ⟨S,n,rfl,h,by omega,fun _=>⟨rfl,rfl⟩⟩
 | some u =>
  obtain ⟨hu,hm⟩:=ho u rfl
  obtain ⟨S',h1,h2,h3⟩:=aae h.slot hn hu hm
  unfold Lb
  dsimp only
  by_cases ht:((en u).size:Int)<=size-18
  ·rw [decide_eq_true ht] at h1
   rw [if_pos ht]
   exact ⟨S',n+1,h1,h2 ht,by omega,fun hh=>by cases hh⟩
  ·rw [decide_eq_false ht] at h1
   rw [if_neg ht]
   obtain rfl:=h3 ht
   exact ⟨_,n,h1,h,by omega,fun _=>⟨rfl,rfl⟩⟩
theorem Lc (root:Int):zj (fN root):=.inr ⟨rfl,rfl,rfl,rfl⟩
theorem aaf {r:jk×Bool} {b:Bool} {t:jk} (h:dE r b=some t):zj t:=by
 unfold dE at h
 split at h
 ·cases b<;>(simp at h; subst h; exact .inr ⟨rfl,rfl,rfl,rfl⟩)
 ·cases h
theorem Pc {size:Int} {S:List ByteArray} {n:Int} {last:ByteArray} (h:uc size S n last):ca size S []:=by
 obtain ⟨s0,s1,rfl,htwo,hw⟩:=h.two
 exact htwo.D
end Go.Proofs.YtljfdfghagiblaaGreat.S2
namespace Go.Proofs.YtljfdfghagiblaaGreat.S2.Mk
open Go Go.Proofs.YtljfdfghagiblaaGreat.S2
def gm (k v d:Int) (o:Or) (S:List ByteArray):Qd:=((k,v,d,()),(o.draws,o.drawn,o.bad,()),(),o.issued,o.met,o.hashes,o.tags,o.seals,o.opens,o.plains,(256,()),S,[],())
def bV (r:jk×Bool) (sector d:Int):Int:=if r.2=false then 235 else if r.1.2.2.1=1 then 234 else if sector≥2 ^ d.toNat then 230 else 0
theorem Em (o:Or) {k v d sector:Int} {S:List ByteArray} (h0:0<=d) (h4:d<=4) (hD:ca 256 S []) :
  cz (sector,()) (gm k v d o S)=some (((ag S []).1,bV (ag S []) sector d,()),()):=by
 unfold cz V4 nu gm
 dsimp only
 rw [Ix hD]
 simp only [Option.bind_some]
 generalize ag S []=r
 obtain ⟨⟨a,b,c,e,f,g,⟨⟩⟩,t⟩:=r
 unfold bV
 cases t with
 | false=>rfl
 | true =>
  dsimp only
  simp only [Bool.not_true,cond_false]
  by_cases hc:c=1
  ·rw [eC (beq_iff_eq.2 hc),if_neg (by decide),if_pos hc]; rfl
  ·rw [eu (beq_false_of_ne hc),ap h0,if_neg (by decide),if_neg hc]
   have hw:IntKind.u64.wrap (1*2 ^ Min.min d.toNat 64)=2 ^ d.toNat:=by
    have:d=0∨d=1∨d=2∨d=3∨d=4:=by omega
    rcases this with rfl | rfl | rfl | rfl | rfl<;>decide
   rw [hw]
   by_cases hs:sector≥2 ^ d.toNat
   ·rw [ap hs,if_pos hs]; rfl
   ·rw [bq hs,if_neg hs]; rfl
def lN (r:jk×Bool):Int:=if r.2=false then 235 else if r.1.2.2.1=0 then 237 else 0
theorem Ll (o:Or) {k v d:Int} {S:List ByteArray} (hD:ca 256 S []) :
  i6 () (gm k v d o S)=some (((ag S []).1,lN (ag S []),()),()):=by
 unfold i6 V7 nv gm
 dsimp only
 rw [Ix hD]
 simp only [Option.bind_some]
 generalize ag S []=r
 obtain ⟨⟨a,b,c,e,f,g,⟨⟩⟩,t⟩:=r
 unfold lN
 cases t with
 | false=>rfl
 | true =>
  dsimp only
  simp only [Bool.not_true,cond_false]
  by_cases hc:c=0
  ·rw [eC (beq_iff_eq.2 hc),if_neg (by decide),if_pos hc]; rfl
  ·rw [eu (beq_false_of_ne hc),if_neg (by decide),if_neg hc]; rfl
def gmw (k v d:Int) (o:Or) (S:List ByteArray):(Int×Int×Int×Unit)×(List Int×Int×Bool×Unit)×Unit×List (Int×Int)×List (Int×Int)×List (ByteArray×Int)×List (aog×Int)×List (Ek×Int)×List (BP×Int)×List ByteArray×(Int×Unit)×List ByteArray×Unit×List W2×Unit:=((k,v,d,()),(o.draws,o.drawn,o.bad,()),(),o.issued,o.met,o.hashes,o.tags,o.seals,o.opens,o.plains,(256,()),S,(),([]:List W2),())
theorem B9 (size:Int) (S:List ByteArray) (o:Option jk):(gP size S [] o).2.2=[]:=by
 unfold gP
 cases o with
 | none=>rfl
 | some t=>dsimp only; split<;>rfl
def bF (S:List ByteArray) (b:Bool):Int:=if (gP 256 S [] (dE (ag S []) b)).1=true then 0 else 235
theorem RA (o:Or) {k v d:Int} {S:List ByteArray} {b:Bool} (hD:ca 256 S []) :
  gR (b,()) (gm k v d o S)=some (bF S b,gmw k v d o (gP 256 S [] (dE (ag S []) b)).2.1):=by
 unfold gR uV gm gmw bF
 dsimp only
 rw [akA hD (by simp),B9]
 simp only [Option.bind_some]
 cases (gP 256 S [] (dE (ag S []) b)).1<;>rfl
def zk (S:List ByteArray):Int:=if lN (ag S [])≠0 then lN (ag S []) else bF S true
def sF (S:List ByteArray):List ByteArray:=if lN (ag S [])≠0 then S else (gP 256 S [] (dE (ag S []) true)).2.1
theorem U0 (o:Or) {k v d:Int} {S:List ByteArray} (hD:ca 256 S []) :
  eE () (gm k v d o S)=some (zk S,gmw k v d o (sF S)):=by
 have hp:=Ll o (k:=k) (v:=v) (d:=d) hD
 have hs:=RA o (k:=k) (v:=v) (d:=d) (b:=true) hD
 unfold eE uW zk sF
 refine (congrArg (fun x=>Option.bind x _) hp).trans ?_
 simp only [Option.bind_some]
 by_cases h:lN (ag S [])=0
 ·rw [if_neg (fun q=>q h),if_neg (fun q=>q h)]
  refine (eu (by rw [h]; rfl)).trans ?_
  refine (congrArg (fun x=>Option.bind x _) hs).trans ?_
  rfl
 ·rw [if_pos h,if_pos h]
  exact eC (bne_iff_ne.2 h)
def sG (o:Or):List Int->Or
 | []=>o
 | h::l=>sG (o.meet h) l
def gl (k v d:Int) (o:Or) (S:List ByteArray) (leaf:ByteArray) (path:List Int):i7:=((k,v,d,()),(o.draws,o.drawn,o.bad,()),(),o.issued,o.met,o.hashes,o.tags,o.seals,o.opens,o.plains,(256,()),S,[],(leaf,path,()),())
theorem Jp (k v d sector:Int) (S:List ByteArray) (leaf:ByteArray) (path:List Int):∀ (suf pre:List Int) (o:Or),(pre++suf).length<=140737488355328 ->
  ir (sector,pre++suf,((pre++suf).length:Int),(pre.length:Int),()) (gl k v d o S leaf path)=some ((sector,()),gl k v d (sG o suf) S leaf path)
 | [],pre,o,hl=>by
  unfold gl
  rw [Qg]
  unfold eJ
  rw [bq (by simp)]
  rfl
 | h::suf,pre,o,hl=>by
  have hm:=Gh o h
  have ih:=Jp k v d sector S leaf path suf (pre++[h]) (o.meet h) (by simpa using hl)
  unfold gl
  rw [Qg]
  unfold eJ
  simp only [List.length_append,List.length_cons] at hl
  rw [ap (by simp; omega),ap (by omega),ap (by simp; omega)]
  have hx:(pre++h::suf).getD ((pre.length:Int)).toNat 0=h:=by rw [Int.toNat_natCast]; exact g7 pre suf h 0
  rw [hx]
  refine (congrArg (fun x=>Option.bind x _) hm).trans ?_
  simp only [Option.bind_some]
  have e1:IntKind.i64.wrap ((pre.length:Int)+1)=((pre++[h]).length:Int):=by rw [Mk.aQ (by omega) (by omega)]; simp
  rw [e1]
  rw [List.append_assoc] at ih
  exact ih
end Go.Proofs.YtljfdfghagiblaaGreat.S2.Mk
