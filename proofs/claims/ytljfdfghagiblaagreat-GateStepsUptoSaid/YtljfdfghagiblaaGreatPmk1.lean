/- Trees of hashes over a table,in plain words: what a climb that ends at the root tells. -/
import Derived.Test.YtljfdfghagiblaaGreatPoracle
import Derived.Test.YtljfdfghagiblaaGreatGmerkle
namespace Go.Proofs.YtljfdfghagiblaaGreat.S2.Mk
open Go Go.Proofs.YtljfdfghagiblaaGreat.S2
def bh (t:ByteArray):ByteArray:=ByteArray.mk #[108,101,97,102]++t
def dR (a b:Int):ByteArray:=ByteArray.mk #[110,111,100,101]++oD a++oD b
theorem Gj {a b a' b':Int} (ha:U a) (hb:U b) (ha':U a') (hb':U b') (h:dR a b=dR a' b'):a=a'/\b=b':=by
 have h1:=congrArg bs h
 unfold dR at h1
 simp only [gA,sE,List.append_assoc] at h1
 have h2:=List.append_cancel_left h1
 obtain ⟨e1,e2⟩:=Js (n:=a.toNat) (n':=a'.toNat) (by obtain ⟨h0,h1⟩:=ha; omega) (by obtain ⟨h0,h1⟩:=ha'; omega) h2
 have h3:bJ b.toNat++[]=bJ b'.toNat++[]:=by rw [e2]
 obtain ⟨e3,_⟩:=Js (n:=b.toNat) (n':=b'.toNat) (by obtain ⟨h0,h1⟩:=hb; omega) (by obtain ⟨h0,h1⟩:=hb'; omega) h3
 obtain ⟨h0,_⟩:=ha; obtain ⟨h0',_⟩:=ha'; obtain ⟨g0,_⟩:=hb; obtain ⟨g0',_⟩:=hb'
 omega
theorem Lm {a b:ByteArray} (h:bh a=bh b):a=b:=by
 have h1:=congrArg bs h
 unfold bh at h1
 simp only [gA] at h1
 exact dF (List.append_cancel_left h1)
structure Wf (o:Or):Prop where
 d0:0<=o.drawn
 du:∀ x,x∈o.draws->U x
 cnt:∀ h,0<=aV iM 0 h o.issued/\aV iM 0 h o.issued<=o.drawn
 val:∀ t h,aG xa t o.hashes=some h->U h/\0<aV iM 0 h o.issued
 inj:o.bad=false->∀ t t' h,aG xa t o.hashes=some h->aG xa t' o.hashes=some h->t=t'
structure Pq (o o':Or):Prop where
 bad:o'.bad=false->o.bad=false
 per:∀ t h,aG xa t o.hashes=some h->aG xa t o'.hashes=some h
 up:o.drawn<=o'.drawn
theorem Pq.refl (o:Or):Pq o o:=⟨id,fun _ _ h=>h,Int.le_refl _⟩
theorem Pq.trans {a b c:Or} (h:Pq a b) (k:Pq b c):Pq a c:=⟨fun e=>h.bad (k.bad e),fun t x e=>k.per t x (h.per t x e),Int.le_trans h.up k.up⟩
theorem azj {draws:List Int} (h:∀ x,x∈draws->U x):Wf (Or.new draws) :=
 by
 refine ⟨Int.le_refl _,h,fun _=>⟨Int.le_refl _,Int.le_refl _⟩,fun t x e=>?_,fun _ t t' x e=>?_⟩
 ·cases e
 ·cases e
theorem aao {draws:List Int} (h:∀ x,x∈draws->U x) (k:Int):U (aL draws k):=by
 unfold aL
 split
 ·rename_i hk
  by_cases h2:k.toNat<draws.length
  ·rw [List.getD_eq_getElem?_getD,List.getElem?_eq_getElem h2]
   exact h _ (List.getElem_mem h2)
  ·rw [List.getD_eq_getElem?_getD,List.getElem?_eq_none (by omega)]
   exact ⟨by decide,by decide⟩
 ·rw [RD]
  exact ⟨by omega,by omega⟩
theorem cJ {o:Or} (w:Wf o) (t:ByteArray) (hd:o.drawn<4611686018427387905):Wf (o.hash t).2/\Pq o (o.hash t).2/\(o.hash t).2.drawn<=o.drawn+1/\aG xa t (o.hash t).2.hashes=some (o.hash t).1:=by
 unfold Or.hash
 cases hm:aG xa t o.hashes with
 | some h=>exact ⟨w,Pq.refl o,by show o.drawn<=o.drawn+1; omega,hm⟩
 | none =>
  have hU:=aao w.du o.drawn
  have hc:=w.cnt (aL o.draws o.drawn)
  have hw:IntKind.i64.wrap (aV iM 0 (aL o.draws o.drawn) o.issued+1)=aV iM 0 (aL o.draws o.drawn) o.issued+1:=aQ (by omega) (by omega)
  have hdw:IntKind.i64.wrap (o.drawn+1)=o.drawn+1:=aQ (by have:=w.d0; omega) (by omega)
  have h0:=w.d0
  have hget:∀ h,aV iM 0 h o.fresh.2.issued=if h=aL o.draws o.drawn then aV iM 0 (aL o.draws o.drawn) o.issued+1 else aV iM 0 h o.issued:=by
   intro h
   show aV iM 0 h (cx iM (aL o.draws o.drawn) (IntKind.i64.wrap (aV iM 0 (aL o.draws o.drawn) o.issued+1)) o.issued)=_
   rw [hw]
   exact pL Lh (κ:=Int) 0 h (aL o.draws o.drawn) _ o.issued
  have hfind:∀ t',aG xa t' (cx xa t o.fresh.1 o.fresh.2.hashes)=if t'=t then some (aL o.draws o.drawn) else aG xa t' o.hashes:=fun t'=>gc atn (κ:=ByteArray) t' t _ _
  refine ⟨⟨?_,w.du,?_,?_,?_⟩,⟨?_,?_,?_⟩,?_,?_⟩
  ·show 0<=IntKind.i64.wrap (o.drawn+1)
   rw [hdw]; omega
  ·intro h
   show 0<=aV iM 0 h o.fresh.2.issued/\aV iM 0 h o.fresh.2.issued<=IntKind.i64.wrap (o.drawn+1)
   rw [hget,hdw]
   have:=w.cnt h
   split<;>omega
  ·intro t' h hf
   have hf:aG xa t' (cx xa t o.fresh.1 o.fresh.2.hashes)=some h:=hf
   show U h/\0<aV iM 0 h o.fresh.2.issued
   rw [hfind] at hf
   rw [hget]
   split at hf
   ·cases hf
    rw [if_pos rfl]
    exact ⟨hU,by omega⟩
   ·obtain ⟨g1,g2⟩:=w.val t' h hf
    refine ⟨g1,?_⟩
    split
    ·rename_i e; subst e; omega
    ·exact g2
  ·intro hb t1 t2 h h1 h2
   have hb:(o.bad||o.clash (aL o.draws o.drawn))=false:=hb
   rw [Bool.or_eq_false_iff] at hb
   have hcl:=hb.2
   unfold Or.clash at hcl
   rw [Bool.or_eq_false_iff,Bool.or_eq_false_iff] at hcl
   have hn:¬ aV iM 0 (aL o.draws o.drawn) o.issued>0:=of_decide_eq_false hcl.2.1
   have h1:aG xa t1 (cx xa t o.fresh.1 o.fresh.2.hashes)=some h:=h1
   have h2:aG xa t2 (cx xa t o.fresh.1 o.fresh.2.hashes)=some h:=h2
   rw [hfind] at h1 h2
   by_cases e1:t1=t<;>by_cases e2:t2=t
   ·rw [e1,e2]
   ·rw [if_pos e1] at h1; rw [if_neg e2] at h2
    cases h1
    exact (hn (w.val t2 _ h2).2).elim
   ·rw [if_neg e1] at h1; rw [if_pos e2] at h2
    cases h2
    exact (hn (w.val t1 _ h1).2).elim
   ·rw [if_neg e1] at h1; rw [if_neg e2] at h2
    exact w.inj hb.1 t1 t2 h h1 h2
  ·intro hb
   have hb:(o.bad||o.clash (aL o.draws o.drawn))=false:=hb
   exact (Bool.or_eq_false_iff.1 hb).1
  ·intro t' h hf
   show aG xa t' (cx xa t o.fresh.1 o.fresh.2.hashes)=some h
   rw [hfind]
   split
   ·rename_i e; subst e; rw [hm] at hf; cases hf
   ·exact hf
  ·show o.drawn<=IntKind.i64.wrap (o.drawn+1)
   rw [hdw]; omega
  ·show IntKind.i64.wrap (o.drawn+1)<=o.drawn+1
   rw [hdw]; exact Int.le_refl _
  ·show aG xa t (cx xa t o.fresh.1 o.fresh.2.hashes)=_
   rw [hfind,if_pos rfl]
   rfl
def az:List ByteArray->Or->List Int×Or
 | [],o=>([],o)
 | t::l,o=>((o.hash t).1::(az l (o.hash t).2).1,(az l (o.hash t).2).2)
theorem cn:∀ (l:List ByteArray) (o:Or),(az l o).1.length=l.length
 | [],o=>rfl
 | t::l,o=>by simp only [az,List.length_cons]; rw [cn]
theorem dg:∀ (l:List ByteArray) {o:Or},Wf o->o.drawn+l.length<=4611686018427387905 ->
  Wf (az l o).2/\Pq o (az l o).2/\(az l o).2.drawn<=o.drawn+l.length/\∀ k,k<l.length->aG xa (l.getD k eB) (az l o).2.hashes=some ((az l o).1.getD k 0)
 | [],o,w,_=>⟨w,Pq.refl o,by simp [az],fun k hk=>by simp at hk⟩
 | t::l,o,w,hb=>by
  simp only [List.length_cons] at hb
  obtain ⟨w1,x1,d1,f1⟩:=cJ w t (by omega)
  obtain ⟨w2,x2,d2,f2⟩:=dg l w1 (by omega)
  refine ⟨w2,x1.trans x2,?_,?_⟩
  ·simp only [az,List.length_cons]; omega
  ·intro k hk
   cases k with
   | zero=>exact x2.per _ _ f1
   | succ k =>
    have:=f2 k (by simp at hk; omega)
    simpa [az] using this
theorem Bk {l:List ByteArray} {o:Or} (w:Wf o) (hb:o.drawn+l.length<=4611686018427387905):∀ x,x∈(az l o).1->U x:=by
 intro x hx
 obtain ⟨k,hk,rfl⟩:=List.mem_iff_getElem.1 hx
 obtain ⟨w1,_,_,f⟩:=dg l w hb
 have:=f k (by rw [cn] at hk; exact hk)
 rw [List.getD_eq_getElem?_getD (l:=(az l o).1),List.getElem?_eq_getElem hk] at this
 exact (w1.val _ _ this).1
abbrev Tab:=ByteArray->Option Int
def oK (T:Tab):List (List Int)->Prop
 | []=>False
 | [l]=>l.length=1
 | l::l'::r=>l.length=2*l'.length/\(∀ i,i<l'.length->T (dR (l.getD (2*i) 0) (l.getD (2*i+1) 0))=some (l'.getD i 0))/\oK T (l'::r)
def fe:List (List Int)->Int
 | []=>0
 | [l]=>l.getD 0 0
 | _::l'::r=>fe (l'::r)
def Pj (i:Nat):Nat:=if i % 2=0 then i+1 else i-1
def bB:List (List Int)->Nat->List Int
 | l::l'::r,i=>l.getD (Pj i) 0::bB (l'::r) (i / 2)
 | _,_=>[]
def cG (h b:Int) (i:Nat):ByteArray:=if i % 2=1 then dR b h else dR h b
def Ca (T:Tab):Int->Nat->List Int->Option Int
 | h,_,[]=>some h
 | h,i,b::p=>(T (cG h b i)).bind fun h'=>Ca T h' (i / 2) p
def KM (t:List (List Int)):Prop:=∀ l,l∈t->∀ x,x∈l->U x
theorem iY {l:List Int} (h:∀ x,x∈l->U x) (k:Nat):U (l.getD k 0):=by
 by_cases hk:k<l.length
 ·rw [List.getD_eq_getElem?_getD,List.getElem?_eq_getElem hk]
  exact h _ (List.getElem_mem hk)
 ·rw [List.getD_eq_getElem?_getD,List.getElem?_eq_none (by omega)]
  exact ⟨by decide,by decide⟩
theorem Jt {T:Tab} (hT:∀ t t' h,T t=some h->T t'=some h->t=t'):∀ (tree:List (List Int)) (p:List Int) (h:Int) (i:Nat) (r:Int),oK T tree->KM tree->U h->(∀ x,x∈p->U x)->(∀ t x,T t=some x->U x) ->
  i<(tree.headD []).length->p.length+1=tree.length->Ca T h i p=some r->(r=fe tree↔h=(tree.headD []).getD i 0/\p=bB tree i)
 | [],p,h,i,r,ht,_,_,_,_,_,_,_=>ht.elim
 | [l],p,h,i,r,ht,hu,hh,hp,hv,hi,hl,hc=>by
  have:p=[]:=List.length_eq_zero_iff.1 (by simpa using hl)
  subst this
  simp only [Ca,Option.some.injEq] at hc
  subst hc
  simp only [List.headD_cons] at hi ⊢
  have hl1:l.length=1:=ht
  have hi0:i=0:=by omega
  subst hi0
  simp [fe,bB]
 | l::l'::rest,[],h,i,r,ht,hu,hh,hp,hv,hi,hl,hc=>by simp at hl
 | l::l'::rest,b::p,h,i,r,ht,hu,hh,hp,hv,hi,hl,hc=>by
  obtain ⟨hlen,hnode,hrest⟩:=ht
  simp only [List.headD_cons] at hi ⊢
  simp only [Ca] at hc
  obtain ⟨h',hj,hc⟩:=Option.bind_eq_some_iff.1 hc
  have hi2:i / 2<l'.length:=by omega
  have ih:=Jt hT (l'::rest) p h' (i / 2) r hrest (fun m hm=>hu m (List.mem_cons_of_mem _ hm)) (hv _ _ hj) (fun x hx=>hp x (List.mem_cons_of_mem _ hx)) hv hi2 (by simpa using hl) hc
  have ul:∀ x,x∈l->U x:=hu l List.mem_cons_self
  have hn:=hnode (i / 2) hi2
  have hb:U b:=hp b List.mem_cons_self
  have hdiv:(i % 2=0/\2*(i / 2)=i)∨(i % 2=1/\2*(i / 2)+1=i):=by omega
  have e1:fe (l::l'::rest)=fe (l'::rest):=rfl
  have e2:bB (l::l'::rest) i=l.getD (Pj i) 0::bB (l'::rest) (i / 2):=rfl
  have key:h'=l'.getD (i / 2) 0↔h=l.getD i 0/\b=l.getD (Pj i) 0:=by
   constructor
   ·intro e
    subst e
    have he:=hT _ _ _ hj hn
    unfold cG at he
    rcases hdiv with ⟨hm,hd⟩ | ⟨hm,hd⟩
    ·rw [if_neg (by omega)] at he
     obtain ⟨q1,q2⟩:=Gj hh hb (iY ul _) (iY ul _) he
     rw [hd] at q1 q2
     unfold Pj
     rw [if_pos hm]
     exact ⟨q1,q2⟩
    ·rw [if_pos hm] at he
     obtain ⟨q1,q2⟩:=Gj hb hh (iY ul _) (iY ul _) he
     unfold Pj
     rw [if_neg (by omega),show i-1=2*(i / 2) by omega]
     rw [hd] at q2
     exact ⟨q2,q1⟩
   ·rintro ⟨e3,e4⟩
    have he:cG h b i=dR (l.getD (2*(i / 2)) 0) (l.getD (2*(i / 2)+1) 0):=by
     unfold cG
     rw [e3,e4]
     unfold Pj
     rcases hdiv with ⟨hm,hd⟩ | ⟨hm,hd⟩
     ·rw [if_neg (by omega),if_pos hm,hd]
     ·rw [if_pos hm,if_neg (by omega),hd,show i-1=2*(i / 2) by omega]
    rw [he,hn] at hj
    exact (Option.some.inj hj).symm
  rw [e1,e2,ih]
  simp only [List.headD_cons,List.cons.injEq,key]
  constructor
  ·rintro ⟨⟨q1,q2⟩,q3⟩; exact ⟨q1,q2,q3⟩
  ·rintro ⟨q1,q2,q3⟩; exact ⟨⟨q1,q2⟩,q3⟩
theorem Bl {l m:List Int} (hl:l.length=m.length) (h:∀ i,i<l.length->l.getD i 0=m.getD i 0):l=m:=by
 apply List.ext_getElem hl
 intro i h1 h2
 have:=h i h1
 rwa [List.getD_eq_getElem?_getD,List.getD_eq_getElem?_getD,List.getElem?_eq_getElem h1,List.getElem?_eq_getElem h2] at this
theorem RG {T:Tab} (hT:∀ t t' h,T t=some h->T t'=some h->t=t'):∀ (a b:List (List Int)),oK T a->oK T b->KM a->KM b->a.length=b.length->(fe a=fe b↔a.headD []=b.headD [])
 | [],b,h,_,_,_,_=>h.elim
 | [l],b,ha,hb,_,_,hl=>by
  match b,hb,hl with
  | [m],hb,_ =>
   have h1:l.length=1:=ha
   have h2:m.length=1:=hb
   simp only [fe,List.headD_cons]
   constructor
   ·intro e
    refine Bl (h1.trans h2.symm) fun i hi=>?_
    obtain rfl:i=0:=by omega
    exact e
   ·intro e
    rw [e]
 | l::l'::r,b,ha,hb,ua,ub,hl=>by
  match b,hb,ub,hl with
  | m::m'::s,hb,ub,hl =>
   obtain ⟨a1,a2,a3⟩:=ha
   obtain ⟨b1,b2,b3⟩:=hb
   have ih:=RG hT (l'::r) (m'::s) a3 b3 (fun x hx=>ua x (List.mem_cons_of_mem _ hx)) (fun x hx=>ub x (List.mem_cons_of_mem _ hx)) (by simpa using hl)
   have e1:fe (l::l'::r)=fe (l'::r):=rfl
   have e2:fe (m::m'::s)=fe (m'::s):=rfl
   have ul:∀ x,x∈l->U x:=ua l List.mem_cons_self
   have um:∀ x,x∈m->U x:=ub m List.mem_cons_self
   rw [e1,e2,ih]
   simp only [List.headD_cons]
   constructor
   ·intro e
    subst e
    refine Bl (a1.trans b1.symm) fun i hi=>?_
    have h2:i / 2<l'.length:=by omega
    obtain ⟨q1,q2⟩:=Gj (iY ul _) (iY ul _) (iY um _) (iY um _) (hT _ _ _ (a2 (i / 2) h2) (b2 (i / 2) h2))
    have hdiv:(i % 2=0/\2*(i / 2)=i)∨(i % 2=1/\2*(i / 2)+1=i):=by omega
    rcases hdiv with ⟨_,hd⟩ | ⟨_,hd⟩
    ·rwa [hd] at q1
    ·rwa [hd] at q2
   ·intro e
    subst e
    refine Bl (by omega) fun i hi=>?_
    have:=(a2 i hi).symm.trans (b2 i (by omega))
    exact Option.some.inj this
def bt (l:List Int):List ByteArray:=(lT l).map fun p=>dR p.1 p.2
def cV:Nat->List Int->Or->List (List Int)×Or
 | 0,l,o=>([l],o)
 | d+1,l,o=>(l::(cV d (az (bt l) o).1 (az (bt l) o).2).1,(cV d (az (bt l) o).1 (az (bt l) o).2).2)
theorem iN (l:List Int):(bt l).length=l.length / 2:=by simp [bt,lT]
theorem Ln {l:List Int} {i:Nat} (h:i<l.length / 2):(bt l).getD i eB=dR (l.getD (2*i) 0) (l.getD (2*i+1) 0):=by
 rw [List.getD_eq_getElem?_getD,List.getElem?_eq_getElem (by rw [iN]; exact h)]
 simp [bt,lT]
theorem Bm (d:Nat) (l:List Int) (o:Or):∃ r,(cV d l o).1=l::r:=by
 cases d with
 | zero=>exact ⟨[],rfl⟩
 | succ d=>exact ⟨_,rfl⟩
theorem RH:∀ (d:Nat) (l:List Int) (o:Or),(cV d l o).1.length=d+1
 | 0,l,o=>rfl
 | d+1,l,o=>by simp only [cV,List.length_cons]; rw [RH]
def Or.tab (o:Or):Tab:=fun t=>aG xa t o.hashes
theorem Lo {T T':Tab} (h:∀ t x,T t=some x->T' t=some x):∀ {tree:List (List Int)},oK T tree->oK T' tree
 | [],ht=>ht
 | [l],ht=>ht
 | l::l'::r,⟨h1,h2,h3⟩=>⟨h1,fun i hi=>h _ _ (h2 i hi),Lo h h3⟩
theorem aap:∀ (d:Nat) (l:List Int) {o:Or},Wf o->l.length=2 ^ d->(∀ x,x∈l->U x)->o.drawn+2 ^ d<=4611686018427387905 ->
  Wf (cV d l o).2/\Pq o (cV d l o).2/\(cV d l o).2.drawn<=o.drawn+2 ^ d/\oK (cV d l o).2.tab (cV d l o).1/\KM (cV d l o).1
 | 0, l, o, w, hl, hu, hb => ⟨w, Pq.refl o, by show o.drawn <= o.drawn + 1; omega, (show l.length = 1 from hl), fun m hm x hx => by
   simp only [cV,List.mem_singleton] at hm
   subst hm
   exact hu x hx⟩
 | d+1,l,o,w,hl,hu,hb=>by
  have hp:(2:Int) ^ (d+1)=2 ^ d+2 ^ d:=by rw [Int.pow_succ]; omega
  have hpn:(2:Nat) ^ (d+1)=2 ^ d+2 ^ d:=by rw [Nat.pow_succ]; omega
  have hcast:((2 ^ d:Nat):Int)=2 ^ d:=by simp
  have ht:(bt l).length=2 ^ d:=by rw [iN,hl]; omega
  obtain ⟨w1,x1,d1,f1⟩:=dg (bt l) w (by rw [ht]; omega)
  have u1:=Bk (l:=bt l) w (by rw [ht]; omega)
  have l1:(az (bt l) o).1.length=2 ^ d:=by rw [cn,ht]
  obtain ⟨w2,x2,d2,t2,u2⟩:=aap d (az (bt l) o).1 w1 l1 u1 (by rw [ht] at d1; omega)
  refine ⟨w2,x1.trans x2,?_,?_,?_⟩
  ·simp only [cV]
   rw [ht] at d1
   omega
  ·show oK (cV d (az (bt l) o).1 (az (bt l) o).2).2.tab (l::(cV d (az (bt l) o).1 (az (bt l) o).2).1)
   obtain ⟨r,hr⟩:=Bm d (az (bt l) o).1 (az (bt l) o).2
   rw [hr] at t2 ⊢
   refine ⟨by rw [l1,hl]; omega,fun i hi=>?_,t2⟩
   have:=f1 i (by rw [ht,← l1]; exact hi)
   rw [Ln (by omega)] at this
   exact x2.per _ _ this
  ·intro m hm x hx
   rcases List.mem_cons.1 hm with rfl | hm
   ·exact hu x hx
   ·exact u2 m hm x hx
end Go.Proofs.YtljfdfghagiblaaGreat.S2.Mk
