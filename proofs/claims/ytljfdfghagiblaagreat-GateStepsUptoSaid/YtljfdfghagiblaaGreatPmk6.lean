/- The tree of any leaves is as the document says,in plain words. -/
import Derived.Test.YtljfdfghagiblaaGreatPmk2
import Derived.Test.YtljfdfghagiblaaGreatGr06
namespace Go.Proofs.YtljfdfghagiblaaGreat.S2.Mk
open Go Go.Proofs.YtljfdfghagiblaaGreat.S2
structure Rel (o:Or) (p:Rf):Prop where
 dr:p.draws=o.draws
 dn:o.drawn=(p.rows.length:Int)
 bd:o.bad=decide (p.bads>0)
 b0:0<=p.bads
 b1:p.bads<=p.rows.length
 is:∀ h,aV iM 0 h o.issued>0↔p.rows.any (fun y:RW=>y.2.2.2.2.2==h)=true
 me:∀ h,aV iM 0 h o.met>0↔p.met.any (fun y=>y==h)=true
 ha:∀ t,aG xa t o.hashes=(p.rows.find? (cu 1 0 0 t eB)).map fun y=>y.2.2.2.2.2
theorem aos (draws:List Int):Rel (Or.new draws) (Rf.new draws) :=
 ⟨rfl,rfl,rfl,Int.le_refl _,Int.le_refl _,fun h=>by simp [Or.new,Rf.new,aV,aG],fun h=>by simp [Or.new,Rf.new,aV,aG],fun t=>rfl⟩
theorem Lr {o:Or} {p:Rf} (r:Rel o p) (h:Int):o.clash h=p.clash h:=by
 unfold Or.clash Rf.clash
 congr 1
 congr 1
 ·rw [Bool.eq_iff_iff,decide_eq_true_iff]
  exact r.is h
 ·rw [Bool.eq_iff_iff,decide_eq_true_iff]
  exact r.me h
theorem RM (t t':ByteArray) (h:Int):cu 1 0 0 t' eB (1,0,0,t,eB,h)=decide (t=t'):=by
 unfold cu
 rw [← ci]
 show (true&&(true&&(true&&(true&&(t.toList==t'.toList&&(eB.toList==eB.toList))))))=_
 rw [beq_self_eq_true (eB.toList)]
 simp
theorem RN {o:Or} {p:Rf} (w:Wf o) (r:Rel o p) (t:ByteArray) (hb:p.rows.length<=1000000):(o.hash t).1=(p.hash t).1/\Rel (o.hash t).2 (p.hash t).2/\(p.hash t).2.rows.length<=p.rows.length+1/\(p.hash t).2.met=p.met:=by
 unfold Or.hash Rf.hash Rf.value
 rw [r.ha t]
 cases hf:p.rows.find? (cu 1 0 0 t eB) with
 | some y=>exact ⟨rfl,r,Nat.le_succ _,rfl⟩
 | none =>
  have hn:aL o.draws o.drawn=aL p.draws p.rows.length:=by rw [r.dr,r.dn]
  have hcl:=Lr r (aL o.draws o.drawn)
  have hdw:IntKind.i64.wrap (o.drawn+1)=o.drawn+1:=by have:=r.dn; exact aQ (by omega) (by omega)
  have hcnt:=w.cnt (aL o.draws o.drawn)
  have hw:IntKind.i64.wrap (aV iM 0 (aL o.draws o.drawn) o.issued+1)=aV iM 0 (aL o.draws o.drawn) o.issued+1:=by have:=r.dn; exact aQ (by omega) (by omega)
  refine ⟨hn,⟨r.dr,?_,?_,?_,?_,?_,r.me,?_⟩,?_,rfl⟩
  ·show IntKind.i64.wrap (o.drawn+1)=((p.rows++[_]).length:Int)
   rw [hdw,r.dn]
   simp
  ·show (o.bad||o.clash (aL o.draws o.drawn))=decide ((if p.clash (aL p.draws p.rows.length) then IntKind.i64.wrap (p.bads+1) else p.bads)>0)
   rw [hcl,hn,r.bd]
   have h0:=r.b0
   have h1:=r.b1
   cases p.clash (aL p.draws p.rows.length) with
   | true =>
    rw [if_pos rfl,aQ (by omega) (by omega),decide_eq_true (show p.bads+1>0 by omega),Bool.or_true]
   | false=>rw [if_neg (by decide),Bool.or_false]
  ·show 0<=(if p.clash (aL p.draws p.rows.length) then IntKind.i64.wrap (p.bads+1) else p.bads)
   have h0:=r.b0
   have h1:=r.b1
   split
   ·rw [aQ (by omega) (by omega)]; omega
   ·exact h0
  ·show (if p.clash (aL p.draws p.rows.length) then IntKind.i64.wrap (p.bads+1) else p.bads)<=((p.rows++[_]).length:Int)
   have h0:=r.b0
   have h1:=r.b1
   rw [List.length_append,List.length_singleton]
   split
   ·rw [aQ (by omega) (by omega)]; omega
   ·omega
  ·intro h
   show aV iM 0 h (cx iM (aL o.draws o.drawn) (IntKind.i64.wrap (aV iM 0 (aL o.draws o.drawn) o.issued+1)) o.issued)>0↔(p.rows++[(1,0,0,t,eB,aL p.draws p.rows.length)]).any (fun y:RW=>y.2.2.2.2.2==h)=true
   have hg:aV iM 0 h (cx iM (aL o.draws o.drawn) (IntKind.i64.wrap (aV iM 0 (aL o.draws o.drawn) o.issued+1)) o.issued)=if h=aL o.draws o.drawn then IntKind.i64.wrap (aV iM 0 (aL o.draws o.drawn) o.issued+1) else aV iM 0 h o.issued:=pL Lh (κ:=Int) 0 h (aL o.draws o.drawn) _ o.issued
   rw [hg,hw,List.any_append,List.any_cons,List.any_nil,Bool.or_false,Bool.or_eq_true,← r.is h]
   dsimp only
   rw [← hn,beq_iff_eq]
   split
   ·rename_i e
    exact ⟨fun _=>.inr e.symm,fun _=>by omega⟩
   ·rename_i e
    exact ⟨fun q=>.inl q,fun q=>q.elim id fun q=>(e q.symm).elim⟩
  ·intro t'
   show aG xa t' (cx xa t (aL o.draws o.drawn) o.hashes)=((p.rows++[(1,0,0,t,eB,aL p.draws p.rows.length)]).find? (cu 1 0 0 t' eB)).map fun y:RW=>y.2.2.2.2.2
   have hm:aG xa t' (cx xa t (aL o.draws o.drawn) o.hashes)=if t'=t then some (aL o.draws o.drawn) else aG xa t' o.hashes:=gc atn (κ:=ByteArray) t' t _ o.hashes
   rw [hm,List.find?_append,List.find?_cons,List.find?_nil,RM]
   by_cases e:t'=t
   ·subst e
    rw [if_pos rfl,hf,decide_eq_true rfl,hn]
    rfl
   ·rw [if_neg e,decide_eq_false (fun h=>e h.symm),r.ha t',Option.or_none]
  ·show (p.rows++[_]).length<=p.rows.length+1
   simp
def aK:List ByteArray->Rf->List Int×Rf
 | [],p=>([],p)
 | t::l,p=>((p.hash t).1::(aK l (p.hash t).2).1,(aK l (p.hash t).2).2)
def jS:Nat->List Int->Rf->List (List Int)×Rf
 | 0,l,p=>([l],p)
 | d+1,l,p=>(l::(jS d (aK (bt l) p).1 (aK (bt l) p).2).1,(jS d (aK (bt l) p).1 (aK (bt l) p).2).2)
theorem akN (p:Rf) (t:ByteArray) (ht:t.size<=140737488355328) (hr:p.rows.length<=1000000000) (hm:p.met.length<=1000000000):db (t,()) p.m=some ((p.hash (bh t)).1,(p.hash (bh t)).2.mo):=by
 have hf:=akO p (bh t) hr hm
 obtain ⟨draws,rows,met,bads⟩:=p
 simp only [Rf.m] at *
 rw [auj]
 unfold rm
 rw [ap (by omega)]
 unfold bh at *
 rw [hf]
 rfl
theorem U3 (p:Rf) {a b:Int} (ha:U a) (hb:U b) (hr:p.rows.length<=1000000000) (hm:p.met.length<=1000000000):cU (a,b,()) p.m=some ((p.hash (dR a b)).1,(p.hash (dR a b)).2.mo):=by
 have hf:=akO p (dR a b) hr hm
 have h1:=aM ha.1 ha.2
 have h2:=aM hb.1 hb.2
 obtain ⟨draws,rows,met,bads⟩:=p
 simp only [Rf.m] at *
 rw [auk]
 unfold rn
 rw [dd ha.1 ha.2,dd hb.1 hb.2]
 simp only [Option.bind_some]
 have h4:(ByteArray.mk #[110,111,100,101]).size=4:=rfl
 rw [ap (by omega),ap (by rw [RI,h4]; omega)]
 unfold dR at *
 rw [hf]
 rfl
theorem Jv (n:Nat) (hn:n<=60):∀ (d k:Nat),k+d=n->gI ((n:Int),((2 ^ k:Nat):Int),(k:Int),()) ()=some ((((2 ^ n:Nat):Int),()),())
 | 0,k,h=>by
  rw [QA]
  unfold eQ
  obtain rfl:k=n:=by omega
  rw [bq (by omega)]
 | d+1,k,h=>by
  rw [QA]
  unfold eQ
  have hp:2 ^ (k+1)=2*2 ^ k:=by rw [Nat.pow_succ]; omega
  have hs:2 ^ (k+1)<=2 ^ 60:=Nat.pow_le_pow_right (by decide) (by omega)
  have h60:(2:Nat) ^ 60=1152921504606846976:=by decide
  have e1:IntKind.i64.wrap ((k:Int)+1)=((k+1:Nat):Int):=by rw [aQ (by omega) (by omega)]; simp
  have e2:IntKind.i64.wrap (2*((2 ^ k:Nat):Int))=((2 ^ (k+1):Nat):Int):=by
   rw [hp]
   generalize 2 ^ k=q at *
   rw [aQ (by omega) (by omega)]
   omega
  rw [ap (by omega),e1,e2]
  exact Jv n hn d (k+1) (by omega)
theorem Bo {n:Nat} (hn:n<=60):br ((n:Int),()) ()=some (((2 ^ n:Nat):Int),()):=by
 rw [aui]
 unfold rl
 have:=Jv n hn n 0 (by omega)
 rw [show ((0:Nat):Int)=0 from rfl,show (((2:Nat) ^ 0:Nat):Int)=1 from rfl] at this
 rw [this]
 rfl
theorem aas (n:Nat) (hn8:n<=8) (ls:List ByteArray) (hs:∀ s,s∈ls->s.size<=140737488355328):∀ (d k:Nat) (p:Rf) (acc:List Int),k+d=2 ^ n->acc.length=k->p.rows.length+d<=1000000->p.met.length<=1000->(∀ t,(p.hash t).2.rows.length<=p.rows.length+1) ->
  eb ((n:Int),ls,(k:Int),()) ((p.bads,()),p.draws,(),p.met,acc,p.rows,()) =
   some ((),(((aK (aT ls k d) p).2.bads,()),(aK (aT ls k d) p).2.draws,(),(aK (aT ls k d) p).2.met,acc++(aK (aT ls k d) p).1,(aK (aT ls k d) p).2.rows,()))
 | 0,k,p,acc,hk,ha,hb,hm,hg=>by
  rw [QD]
  unfold eR
  rw [Bo (by omega)]
  simp only [Option.bind_some]
  rw [bq (by omega)]
  simp [aT,aK]
 | d+1,k,p,acc,hk,ha,hb,hm,hg=>by
  have hsmall:2 ^ n<=2 ^ 8:=Nat.pow_le_pow_right (by decide) hn8
  have hlen:∀ (q:Rf) (t:ByteArray),(q.hash t).2.rows.length<=q.rows.length+1/\(q.hash t).2.met=q.met:=by
   intro q t
   unfold Rf.hash Rf.value
   cases q.rows.find? (cu 1 0 0 t eB) with
   | some y=>exact ⟨Nat.le_succ _,rfl⟩
   | none=>exact ⟨by show (q.rows++[_]).length<=_; simp,rfl⟩
  have ih:=aas n hn8 ls hs d (k+1) (p.hash (bh (ls.getD k eB))).2 (acc++[(p.hash (bh (ls.getD k eB))).1]) (by omega) (by simp [ha]) (by have:=(hlen p (bh (ls.getD k eB))).1; omega) (by rw [(hlen p _).2]; exact hm) (fun t=>(hlen _ t).1)
  have e1:IntKind.i64.wrap ((k:Int)+1)=((k+1:Nat):Int):=by rw [aQ (by omega) (by omega)]; simp
  have hrange:aT ls k (d+1)=bh (ls.getD k eB)::aT ls (k+1) d:=by simp [aT,List.range'_succ]
  have hlf:=akN p (ls.getD k eB) (Lp hs k) (by omega) (by omega)
  unfold Rf.m at hlf
  rw [QD]
  unfold eR
  rw [Bo (by omega)]
  simp only [Option.bind_some]
  rw [ap (by omega),hrange]
  simp only [aK]
  rw [List.append_assoc] at ih
  by_cases hkl:(k:Int)<(ls.length:Int)
  ·rw [ap hkl,ap (by omega),ap hkl,Int.toNat_natCast,hlf]
   simp only [Option.bind_some]
   rw [ap (by first | omega | (simp; omega)),e1,List.nil_append]
   exact ih
  ·have hgd : ls.getD k eB = eB := by
    rw [List.getD_eq_getElem?_getD,List.getElem?_eq_none (by omega)]; rfl
   rw [bq hkl]
   rw [hgd] at hlf ih ⊢
   rw [hlf]
   simp only [Option.bind_some]
   rw [ap (by first | omega | (simp; omega)),e1,List.nil_append]
   exact ih
theorem Jw (q:Rf) (t:ByteArray):(q.hash t).2.rows.length<=q.rows.length+1/\(q.hash t).2.met=q.met:=by
 unfold Rf.hash Rf.value
 cases q.rows.find? (cu 1 0 0 t eB) with
 | some y=>exact ⟨Nat.le_succ _,rfl⟩
 | none=>exact ⟨by show (q.rows++[_]).length<=_; simp,rfl⟩
theorem RO (l:List Int) (hl:l.length<=1000) (he:l.length % 2=0) (hu:∀ x,x∈l->U x) (tr:List (List Int)):∀ (d i:Nat) (p:Rf) (acc:List Int),i+d=l.length / 2->acc.length=i->p.rows.length+d<=1000000->p.met.length<=1000 ->
  cL (l,((2*i:Nat):Int),()) ((p.bads,()),p.draws,(),p.met,tr,acc,p.rows,()) =
   some ((),(((aK ((bt l).drop i) p).2.bads,()),(aK ((bt l).drop i) p).2.draws,(),(aK ((bt l).drop i) p).2.met,tr,acc++(aK ((bt l).drop i) p).1,(aK ((bt l).drop i) p).2.rows,()))
 | 0,i,p,acc,hi,ha,hb,hm=>by
  rw [KY]
  unfold dx
  rw [bq (by omega),List.drop_of_length_le (by rw [iN]; omega)]
  simp [aK]
 | d+1,i,p,acc,hi,ha,hb,hm=>by
  have e1:IntKind.i64.wrap (((2*i:Nat):Int)+1)=((2*i+1:Nat):Int):=by rw [aQ (by omega) (by omega)]; simp
  have e2:IntKind.i64.wrap (((2*i:Nat):Int)+2)=((2*(i+1):Nat):Int):=by rw [aQ (by omega) (by omega)]; omega
  have hil:i<(bt l).length:=by rw [iN]; omega
  have ht:(bt l).drop i=dR (l.getD (2*i) 0) (l.getD (2*i+1) 0)::(bt l).drop (i+1):=by
   rw [List.drop_eq_getElem_cons hil]
   congr 1
   have:=Ln (l:=l) (i:=i) (by omega)
   rw [List.getD_eq_getElem?_getD,List.getElem?_eq_getElem hil] at this
   exact this
  have hnd:=U3 p (iY hu (2*i)) (iY hu (2*i+1)) (by omega) (by omega)
  unfold Rf.m at hnd
  obtain ⟨g1,g2⟩:=Jw p (dR (l.getD (2*i) 0) (l.getD (2*i+1) 0))
  have ih:=RO l hl he hu tr d (i+1) (p.hash (dR (l.getD (2*i) 0) (l.getD (2*i+1) 0))).2 (acc++[(p.hash (dR (l.getD (2*i) 0) (l.getD (2*i+1) 0))).1]) (by omega) (by simp [ha]) (by omega) (by rw [g2]; exact hm)
  rw [List.append_assoc] at ih
  rw [KY]
  unfold dx
  rw [ap (by omega),ap (by omega),ap (by omega),ap (by rw [e1]; omega),ap (by rw [e1]; omega),e1,e2,Int.toNat_natCast,Int.toNat_natCast,hnd,ht]
  simp only [Option.bind_some,aK]
  rw [ap (by first | omega | (simp; omega)),List.nil_append]
  exact ih
theorem Jy:∀ (l:List ByteArray) (p:Rf),(aK l p).1.length=l.length/\(aK l p).2.rows.length<=p.rows.length+l.length/\(aK l p).2.met=p.met
 | [],p=>⟨rfl,Nat.le_refl _,rfl⟩
 | t::l,p=>by
  obtain ⟨h1,h2,h3⟩:=Jy l (p.hash t).2
  obtain ⟨g1,g2⟩:=Jw p t
  simp only [aK,List.length_cons]
  exact ⟨by rw [h1],by omega,h3.trans g2⟩
theorem Jz (d:Nat) (l:List Int) (p:Rf):∃ r,(jS d l p).1=l::r:=by
 cases d with
 | zero=>exact ⟨[],rfl⟩
 | succ d=>exact ⟨_,rfl⟩
theorem RP:∀ (d:Nat) (p:Rf) (l:List Int) (tr:List (List Int)),d<=8->l.length=2 ^ d->tr.length+d<=20->(∀ x,x∈(jS d l p).1.dropLast->∀ y,y∈x->U y)->p.rows.length+2 ^ d<=1000000->p.met.length<=1000 ->
  eS (l,()) ((p.bads,()),p.draws,(),p.met,tr,p.rows,()) =
   some ((),(((jS d l p).2.bads,()),(jS d l p).2.draws,(),(jS d l p).2.met,tr++(jS d l p).1.tail,(jS d l p).2.rows,()))
 | 0,p,l,tr,h8,hl,ht,hu,hb,hm=>by
  rw [K0]
  unfold dy
  rw [bq (by simp at hl; omega)]
  simp [jS]
 | d+1,p,l,tr,h8,hl,ht,hu,hb,hm=>by
  have hpn:(2:Nat) ^ (d+1)=2 ^ d+2 ^ d:=by rw [Nat.pow_succ]; omega
  have hpos:0<2 ^ d:=Nat.pow_pos (by decide)
  have hsmall:2 ^ d<=2 ^ 8:=Nat.pow_le_pow_right (by decide) (by omega)
  have htx:(bt l).length=2 ^ d:=by rw [iN,hl]; omega
  obtain ⟨r,hr⟩:=Jz d (aK (bt l) p).1 (aK (bt l) p).2
  have hul:∀ x,x∈l->U x:=hu l (by simp only [jS,hr]; rw [List.dropLast_cons_of_ne_nil (by simp)]; simp)
  have h14:=RO l (by omega) (by omega) hul tr (2 ^ d) 0 p [] (by omega) rfl (by omega) hm
  rw [List.drop_zero,List.nil_append,show ((2*0:Nat):Int)=0 from rfl] at h14
  obtain ⟨a1,a2,a3⟩:=Jy (bt l) p
  have ih:=RP d (aK (bt l) p).2 (aK (bt l) p).1 (tr++[(aK (bt l) p).1]) (by omega) (by rw [a1,htx]) (by simp; omega) (fun x hx=>hu x (by
   simp only [jS]
   rw [List.dropLast_cons_of_ne_nil (by rw [hr]; simp)]
   exact List.mem_cons_of_mem _ hx)) (by omega) (by rw [a3]; exact hm)
  rw [K0]
  unfold dy
  rw [ap (by omega),h14]
  simp only [Option.bind_some]
  rw [ap (by first | omega | (simp; omega)),List.nil_append]
  refine Eq.trans ih ?_
  simp only [jS,List.tail_cons,hr,List.append_assoc,List.singleton_append]
end Go.Proofs.YtljfdfghagiblaaGreat.S2.Mk
