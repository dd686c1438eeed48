/- Laws of the tree of hashes: what climbs to the root,and trees with one root,in plain words. -/
import Derived.Test.YtljfdfghagiblaaGreatPmk2
import Derived.Test.YtljfdfghagiblaaGreatGr06
import Derived.Test.YtljfdfghagiblaaGreatPlock
namespace Go.Proofs.YtljfdfghagiblaaGreat.S2.Mk
open Go Go.Proofs.YtljfdfghagiblaaGreat.S2
theorem Jr:∀ {tr:List (List Int)},RK tr->(tr.getD (tr.length-1) []).length=1/\fe tr=(tr.getD (tr.length-1) []).getD 0 0
 | [],h=>h.elim
 | [l],h=>⟨h,rfl⟩
 | l::l'::r,h=>by
  obtain ⟨h1,h2⟩:=Jr (tr:=l'::r) h.2
  have e:(l::l'::r).getD ((l::l'::r).length-1) []=(l'::r).getD ((l'::r).length-1) []:=by
   simp only [List.length_cons,List.getD_eq_getElem?_getD]
   rw [show r.length+1+1-1=(r.length+1-1)+1 by omega,List.getElem?_cons_succ]
  rw [e]
  exact ⟨h1,h2⟩
theorem IA {o:Or} (w:Wf o) (hb:o.bad=false):∀ t t' h,o.tab t=some h->o.tab t'=some h->t=t':=w.inj hb
theorem atu {o:Or} (w:Wf o):∀ t x,o.tab t=some x->U x:=fun t x h=>(w.val t x h).1
theorem Pq.tree {a b:Or} (x:Pq a b) {t:List (List Int)} (h:oK a.tab t):oK b.tab t:=Lo x.per h
theorem xB {o:Or} (w:Wf o) (h:Int):Wf (o.meet h)/\(o.meet h).drawn=o.drawn:=by
 unfold Or.meet
 split
 ·exact ⟨⟨w.d0,w.du,w.cnt,w.val,w.inj⟩,rfl⟩
 ·exact ⟨w,rfl⟩
open Go Go.Proofs.YtljfdfghagiblaaGreat.S2
abbrev isd (o:Or) (h:Int):Int:=aV iM 0 h o.issued
abbrev GW (o:Or) (k n c:Int) (a:ByteArray) (i:Int):Prop:=aG oJ (k,n,c,a) o.opens=some i
structure G (o:Or):Prop where
 wf:Wf o
 told:o.told
 iss:∀ k n c a i,GW o k n c a i->0<isd o c
 sok:o.bad=false->∀ k n a p c,aG GY (k,n,a,p) o.seals=some c->∃ i,GW o k n c a i/\o.plains.getD (i-1).toNat eB=p
 sU:∀ k n a p c,aG GY (k,n,a,p) o.seals=some c->U c
 sI:∀ k n a p c,aG GY (k,n,a,p) o.seals=some c->0<isd o c
 pl:(o.plains.length:Int)<=o.drawn
structure X (o o':Or):Prop where
 ext:Pq o o'
 opn:∀ k n c a i,GW o k n c a i->GW o' k n c a i
 pll:o.plains.length<=o'.plains.length
 pls:∀ j,j<o.plains.length->o'.plains.getD j eB=o.plains.getD j eB
 iss:∀ h,isd o h<=isd o' h
theorem X.refl (o:Or):X o o:=⟨Pq.refl o,fun _ _ _ _ _ h=>h,Nat.le_refl _,fun _ _=>rfl,fun _=>Int.le_refl _⟩
theorem X.trans {a b c:Or} (h:X a b) (k:X b c):X a c :=
 ⟨h.ext.trans k.ext,fun _ _ _ _ _ e=>k.opn _ _ _ _ _ (h.opn _ _ _ _ _ e),Nat.le_trans h.pll k.pll,fun j hj=>(k.pls j (Nat.lt_of_lt_of_le hj h.pll)).trans (h.pls j hj),fun x=>Int.le_trans (h.iss x) (k.iss x)⟩
theorem Lg {o:Or} (w:Wf o) (hd:o.drawn<4611686018427387905) (h:Int):isd o.fresh.2 h=if h=aL o.draws o.drawn then isd o (aL o.draws o.drawn)+1 else isd o h:=by
 have hc:=w.cnt (aL o.draws o.drawn)
 show aV iM 0 h (cx iM (aL o.draws o.drawn) (IntKind.i64.wrap (aV iM 0 (aL o.draws o.drawn) o.issued+1)) o.issued)=_
 rw [aQ (by omega) (by omega)]
 exact pL Lh (κ:=Int) 0 h (aL o.draws o.drawn) _ o.issued
theorem zl {o:Or} (w:Wf o) (hd:o.drawn<4611686018427387905):o.fresh.2.drawn=o.drawn+1:=by
 show IntKind.i64.wrap (o.drawn+1)=_
 have:=w.d0
 exact aQ (by omega) (by omega)
theorem pM {o:Or} (h:o.fresh.2.bad=false):o.bad=false/\isd o o.fresh.1<=0/\o.fresh.1≠0:=by
 have hb:(o.bad||o.clash (aL o.draws o.drawn))=false:=h
 rw [Bool.or_eq_false_iff] at hb
 have hcl:=hb.2
 unfold Or.clash at hcl
 rw [Bool.or_eq_false_iff,Bool.or_eq_false_iff] at hcl
 have hn:¬ aV iM 0 (aL o.draws o.drawn) o.issued>0:=of_decide_eq_false hcl.2.1
 refine ⟨hb.1,by show aV iM 0 (aL o.draws o.drawn) o.issued<=0; omega,fun e=>?_⟩
 have h0:(aL o.draws o.drawn==0)=false:=hcl.1
 have e':aL o.draws o.drawn=0:=e
 rw [e'] at h0
 cases h0
theorem Bh {o:Or} (g:G o) (hd:o.drawn<4611686018427387905):G o.fresh.2/\X o o.fresh.2/\U o.fresh.1/\0<isd o.fresh.2 o.fresh.1:=by
 have w:=g.wf
 have hget:=Lg w hd
 have hdr:=zl w hd
 have hU:=aao w.du o.drawn
 have hmono:∀ h,isd o h<=isd o.fresh.2 h:=by
  intro h
  rw [hget]
  split
  ·rename_i e; rw [e]; omega
  ·exact Int.le_refl _
 have h0:=w.d0
 refine ⟨⟨⟨by omega,w.du,?_,?_,?_⟩,g.told,?_,?_,g.sU,?_,?_⟩,⟨⟨fun hb=>(pM hb).1,fun _ _ h=>h,by omega⟩,fun _ _ _ _ _ h=>h,Nat.le_refl _,fun _ _=>rfl,hmono⟩,hU,?_⟩
 ·intro h
  have hc:=w.cnt h
  have hc2:=w.cnt (aL o.draws o.drawn)
  show 0<=isd o.fresh.2 h/\isd o.fresh.2 h<=o.fresh.2.drawn
  rw [hget,hdr]
  unfold isd
  split<;>omega
 ·intro t h hf
  obtain ⟨g1,g2⟩:=w.val t h hf
  exact ⟨g1,Int.lt_of_lt_of_le g2 (hmono h)⟩
 ·intro hb t t' h h1 h2
  exact w.inj (pM hb).1 t t' h h1 h2
 ·intro k n c a i h
  exact Int.lt_of_lt_of_le (g.iss k n c a i h) (hmono c)
 ·intro hb k n a p c h
  exact g.sok (pM hb).1 k n a p c h
 ·intro k n a p c h
  exact Int.lt_of_lt_of_le (g.sI k n a p c h) (hmono c)
 ·have:=g.pl
  show (o.plains.length:Int)<=o.fresh.2.drawn
  omega
 ·rw [hget]
  have:=w.cnt (aL o.draws o.drawn)
  rw [if_pos (show o.fresh.1=aL o.draws o.drawn from rfl)]
  show 0<aV iM 0 (aL o.draws o.drawn) o.issued+1
  omega
theorem Gf {o:Or} (g:G o) (t:ByteArray) (hd:o.drawn<4611686018427387905):G (o.hash t).2/\X o (o.hash t).2:=by
 obtain ⟨w1,x1,d1,f1⟩:=cJ g.wf t hd
 unfold Or.hash at w1 x1 ⊢
 cases hm:aG xa t o.hashes with
 | some h=>exact ⟨g,X.refl o⟩
 | none =>
  rw [hm] at w1 x1
  obtain ⟨g2,x2,_,_⟩:=Bh g hd
  exact ⟨⟨w1,g2.told,g2.iss,g2.sok,g2.sU,g2.sI,g2.pl⟩,⟨x1,x2.opn,x2.pll,x2.pls,x2.iss⟩⟩
theorem jA {o:Or} (g:G o) (h:Int):G (o.meet h)/\X o (o.meet h):=by
 have w:=xB g.wf h
 unfold Or.meet at w ⊢
 by_cases e:aV iM 0 h o.issued=0
 ·rw [if_pos e] at w ⊢
  exact ⟨⟨w.1,g.told,g.iss,g.sok,g.sU,g.sI,g.pl⟩,⟨⟨id,fun _ _ h=>h,Int.le_refl _⟩,fun _ _ _ _ _ h=>h,Nat.le_refl _,fun _ _=>rfl,fun _=>Int.le_refl _⟩⟩
 ·rw [if_neg e]
  exact ⟨g,X.refl o⟩
theorem JC {l:List ByteArray} {p:ByteArray} {j:Nat} (h:j<l.length):(l++[p]).getD j eB=l.getD j eB:=by
 rw [List.getD_eq_getElem?_getD,List.getD_eq_getElem?_getD,List.getElem?_append_left h]
theorem uB {l:List ByteArray} {p:ByteArray}:(l++[p]).getD l.length eB=p:=by
 rw [List.getD_eq_getElem?_getD,List.getElem?_append_right (Nat.le_refl _)]
 simp
theorem zp {κ:Type} {eq:κ->κ->Bool} {k:κ} {es:List (κ×Int)} (h:aG eq k es=none):aV eq 0 k es=0:=by unfold aV; rw [h]; rfl
theorem Sb {κ ν:Type} {eq:κ->κ->Bool} {k:κ} {v:ν}:∀ {es:List (κ×ν)} {x:κ×ν},x∈cx eq k v es->x∈es∨x.2=v
 | [],x,h=>by
  simp only [cx,List.mem_singleton] at h
  exact .inr (by rw [h])
 | e::es,x,h=>by
  simp only [cx] at h
  split at h
  ·rcases List.mem_cons.1 h with rfl | h
   ·exact .inr rfl
   ·exact .inl (List.mem_cons_of_mem _ h)
  ·rcases List.mem_cons.1 h with rfl | h
   ·exact .inl List.mem_cons_self
   ·rcases Sb h with h | h
    ·exact .inl (List.mem_cons_of_mem _ h)
    ·exact .inr h
theorem azA {o:Or} (g:G o) (k n:Int) (a p:ByteArray) (hd:o.drawn<4611686018427387905):G (o.seal k n a p).2/\X o (o.seal k n a p).2/\U (o.seal k n a p).1/\(o.seal k n a p).2.drawn<=o.drawn+1/\0<isd (o.seal k n a p).2 (o.seal k n a p).1 /\
  ((o.seal k n a p).2.bad=false->∃ i,GW (o.seal k n a p).2 k n (o.seal k n a p).1 a i/\(o.seal k n a p).2.plains.getD (i-1).toNat eB=p):=by
 unfold Or.seal
 cases hm:aG GY (k,n,a,p) o.seals with
 | some h=>exact ⟨g,X.refl o,g.sU _ _ _ _ _ hm,by show o.drawn<=o.drawn+1; omega,g.sI _ _ _ _ _ hm,fun hb=>g.sok hb _ _ _ _ _ hm⟩
 | none =>
  obtain ⟨g1,x1,u1,i1⟩:=Bh g hd
  have hdr:=zl g.wf hd
  dsimp only
  generalize hc:o.fresh.1=c at u1 i1
  have hpl:o.fresh.2.plains=o.plains:=rfl
  have hop:o.fresh.2.opens=o.opens:=rfl
  have hse:o.fresh.2.seals=o.seals:=rfl
  have hlen:((o.fresh.2.plains++[p]).length:Int)=(o.plains.length:Int)+1:=by rw [hpl]; simp
  generalize hO:(if aV oJ 0 (k,n,c,a) o.fresh.2.opens=0 then cx oJ (k,n,c,a) ((o.fresh.2.plains++[p]).length:Int) o.fresh.2.opens else o.fresh.2.opens)=O
  have hfS:∀ k' n' a' p',aG GY (k',n',a',p') (cx GY (k,n,a,p) c o.fresh.2.seals)=if (k',n',a',p')=(k,n,a,p) then some c else aG GY (k',n',a',p') o.seals:=fun k' n' a' p'=>gc atm (κ:=Ek) (k',n',a',p') (k,n,a,p) c o.fresh.2.seals
  have hfO:∀ k' n' c' a',aG oJ (k',n',c',a') O=if aV oJ 0 (k,n,c,a) o.opens=0/\(k',n',c',a')=(k,n,c,a) then some ((o.fresh.2.plains++[p]).length:Int) else aG oJ (k',n',c',a') o.opens:=by
   intro k' n' c' a'
   rw [← hO]
   by_cases e:aV oJ 0 (k,n,c,a) o.opens=0
   ·rw [if_pos (by rw [hop]; exact e)]
    rw [gc akE (κ:=BP) (k',n',c',a') (k,n,c,a) _ o.fresh.2.opens]
    by_cases e2:(k',n',c',a')=(k,n,c,a)
    ·rw [if_pos e2,if_pos ⟨e,e2⟩]
    ·rw [if_neg e2,if_neg (fun h=>e2 h.2)]
     rfl
   ·rw [if_neg (by rw [hop]; exact e),if_neg (fun h=>e h.1)]
    rfl
  have hold:∀ k' n' c' a' i,GW o k' n' c' a' i->aG oJ (k',n',c',a') O=some i:=by
   intro k' n' c' a' i h
   rw [hfO,if_neg]
   ·exact h
   ·rintro ⟨e,e2⟩
    have h':aG oJ (k',n',c',a') o.opens=some i:=h
    rw [e2] at h'
    have:aV oJ 0 (k,n,c,a) o.opens=i:=by unfold aV; rw [h']; rfl
    obtain ⟨x,hx,hxi⟩:=mV h'
    have:=g.told x hx
    omega
  have hnone:o.fresh.2.bad=false->aV oJ 0 (k,n,c,a) o.opens=0:=by
   intro hb
   have hf:=(pM hb).2.1
   rw [hc] at hf
   cases hq:aG oJ (k,n,c,a) o.opens with
   | none=>exact zp hq
   | some i =>
    have:=g.iss k n c a i hq
    omega
  have hOm:∀ x∈O,0<x.2/\x.2<=((o.fresh.2.plains++[p]).length:Int):=by
   intro x hx
   rw [← hO] at hx
   have key:∀ y∈o.opens,0<y.2/\y.2<=((o.fresh.2.plains++[p]).length:Int):=by
    intro y hy
    have:=g.told y hy
    rw [hlen]
    omega
   split at hx
   ·rcases Sb hx with h | h
    ·exact key x h
    ·rw [h,hlen]; omega
   ·exact key x hx
  have w1:=g1.wf
  refine ⟨⟨⟨w1.d0,w1.du,w1.cnt,w1.val,w1.inj⟩,hOm,?_,?_,?_,?_,?_⟩,⟨⟨x1.ext.bad,x1.ext.per,x1.ext.up⟩,hold,?_,?_,x1.iss⟩,u1,?_,i1,?_⟩
  ·intro k' n' c' a' i h
   have h:aG oJ (k',n',c',a') O=some i:=h
   show 0<isd o.fresh.2 c'
   rw [hfO] at h
   split at h
   ·rename_i e
    have:=e.2
    simp only [Prod.mk.injEq] at this
    rw [this.2.2.1]
    exact i1
   ·exact Int.lt_of_lt_of_le (g.iss _ _ _ _ _ h) (x1.iss c')
  ·intro hb k' n' a' p' c' hh
   have h:aG GY (k',n',a',p') (cx GY (k,n,a,p) c o.fresh.2.seals)=some c':=hh
   clear hh
   show ∃ i,aG oJ (k',n',c',a') O=some i/\(o.fresh.2.plains++[p]).getD (i-1).toNat eB=p'
   rw [hfS] at h
   split at h
   ·rename_i e
    simp only [Prod.mk.injEq] at e
    obtain ⟨rfl,rfl,rfl,rfl⟩:=e
    obtain rfl:=Option.some.inj h
    refine ⟨((o.fresh.2.plains++[p']).length:Int),by rw [hfO,if_pos ⟨hnone hb,rfl⟩],?_⟩
    rw [hlen,show ((o.plains.length:Int)+1-1).toNat=o.plains.length by omega,hpl]
    exact uB
   ·obtain ⟨i,h1,h2⟩:=g.sok (pM hb).1 _ _ _ _ _ h
    refine ⟨i,hold _ _ _ _ _ h1,?_⟩
    obtain ⟨x,hx,hxi⟩:=mV h1
    have:=g.told x hx
    rw [hpl,JC (by omega)]
    exact h2
  ·intro k' n' a' p' c' h
   have h:aG GY (k',n',a',p') (cx GY (k,n,a,p) c o.fresh.2.seals)=some c':=h
   rw [hfS] at h
   split at h
   ·cases h; exact u1
   ·exact g.sU _ _ _ _ _ h
  ·intro k' n' a' p' c' h
   have h:aG GY (k',n',a',p') (cx GY (k,n,a,p) c o.fresh.2.seals)=some c':=h
   show 0<isd o.fresh.2 c'
   rw [hfS] at h
   split at h
   ·cases h; exact i1
   ·exact Int.lt_of_lt_of_le (g.sI _ _ _ _ _ h) (x1.iss c')
  ·show ((o.fresh.2.plains++[p]).length:Int)<=o.fresh.2.drawn
   have:=g.pl
   rw [hlen,hdr]
   omega
  ·show o.plains.length<=(o.plains++[p]).length
   simp
  ·intro j hj
   exact JC hj
  ·show o.fresh.2.drawn<=_
   omega
  ·intro hb
   show ∃ i,aG oJ (k,n,c,a) O=some i/\(o.fresh.2.plains++[p]).getD (i-1).toNat eB=p
   refine ⟨((o.fresh.2.plains++[p]).length:Int),by rw [hfO,if_pos ⟨hnone hb,rfl⟩],?_⟩
   rw [hlen,show ((o.plains.length:Int)+1-1).toNat=o.plains.length by omega,hpl]
   exact uB
theorem Jn {o:Or} (g:G o) (key volume sector version epoch:Int) (p:ByteArray) (hd:o.drawn<4611686018427387000) :
  G (o.lock key volume sector version epoch p).2.2/\X o (o.lock key volume sector version epoch p).2.2/\U (o.lock key volume sector version epoch p).1/\U (o.lock key volume sector version epoch p).2.1/\(o.lock key volume sector version epoch p).2.2.drawn<=o.drawn+2 /\
   0<isd (o.lock key volume sector version epoch p).2.2 (o.lock key volume sector version epoch p).1/\0<isd (o.lock key volume sector version epoch p).2.2 (o.lock key volume sector version epoch p).2.1 /\
   ((o.lock key volume sector version epoch p).2.2.bad=false->isd o (o.lock key volume sector version epoch p).1<=0/\∃ i,GW (o.lock key volume sector version epoch p).2.2 key (o.lock key volume sector version epoch p).1 (o.lock key volume sector version epoch p).2.1 (ch volume sector version epoch) i/\(o.lock key volume sector version epoch p).2.2.plains.getD (i-1).toNat eB=p):=by
 unfold Or.lock
 dsimp only
 obtain ⟨g1,x1,u1,i1⟩:=Bh g (by omega)
 have hdr:=zl g.wf (by omega)
 obtain ⟨g2,x2,u2,d2,i2,t2⟩:=azA g1 key o.fresh.1 (ch volume sector version epoch) p (by omega)
 exact ⟨g2,x1.trans x2,u1,u2,by omega,Int.lt_of_lt_of_le i1 (x2.iss _),i2,fun hb=>⟨(pM (x2.ext.bad hb)).2.1,t2 hb⟩⟩
theorem aFS {o:Or} (g:G o) (k n:Int) (a:ByteArray) (c:Int):G (o.opn k n a c).2.2/\X o (o.opn k n a c).2.2/\(o.opn k n a c).2.2.drawn=o.drawn:=by
 unfold Or.opn
 cases hq:aG oJ (k,n,c,a) o.opens with
 | some i=>exact ⟨g,X.refl o,rfl⟩
 | none=>exact ⟨(jA g c).1,(jA g c).2,(xB g.wf c).2⟩
theorem atl {draws:List Int} (h:∀ x,x∈draws->U x):G (Or.new draws):=by
 refine ⟨azj h,?_,?_,?_,?_,?_,Int.le_refl _⟩
 ·intro x hx; cases hx
 ·intro k n c a i hx; cases hx
 ·intro _ k n a p c hx; cases hx
 ·intro k n a p c hx; cases hx
 ·intro k n a p c hx; cases hx
theorem wQ:∀ (l:List ByteArray) {o:Or},G o->o.drawn+l.length<=4611686018427387000->G (az l o).2/\X o (az l o).2
 | [],o,g,_=>⟨g,X.refl o⟩
 | t::l,o,g,hb=>by
  simp only [List.length_cons] at hb
  obtain ⟨g1,x1⟩:=Gf g t (by omega)
  have d1:=(cJ g.wf t (by omega)).2.2.1
  obtain ⟨g2,x2⟩:=wQ l g1 (by omega)
  exact ⟨g2,x1.trans x2⟩
theorem ak8:∀ (d:Nat) (l:List Int) {o:Or},G o->l.length=2 ^ d->o.drawn+2 ^ d<=4611686018427387000->G (cV d l o).2/\X o (cV d l o).2
 | 0,l,o,g,_,_=>⟨g,X.refl o⟩
 | d+1,l,o,g,hl,hb=>by
  have hp:(2:Int) ^ (d+1)=2 ^ d+2 ^ d:=by rw [Int.pow_succ]; omega
  have hpn:(2:Nat) ^ (d+1)=2 ^ d+2 ^ d:=by rw [Nat.pow_succ]; omega
  have hcast:((2 ^ d:Nat):Int)=2 ^ d:=by simp
  have ht:(bt l).length=2 ^ d:=by rw [iN,hl]; omega
  obtain ⟨g1,x1⟩:=wQ (bt l) g (by rw [ht]; omega)
  have d1:=(dg (bt l) g.wf (by rw [ht]; omega)).2.2.1
  rw [ht] at d1
  obtain ⟨g2,x2⟩:=ak8 d (az (bt l) o).1 g1 (by rw [cn,ht]) (by omega)
  exact ⟨g2,x1.trans x2⟩
theorem Pl {d:Nat} {ls:List ByteArray} {o:Or} (g:G o) (h8:d<=8) (hd:o.drawn<=3000000000000000000):G (bi d ls o).2/\X o (bi d ls o).2:=by
 have hsmall:2 ^ d<=2 ^ 8:=Nat.pow_le_pow_right (by decide) h8
 have hcast:(2:Int) ^ d=((2 ^ d:Nat):Int):=by simp
 obtain ⟨g1,x1⟩:=wQ (aT ls 0 (2 ^ d)) g (by rw [a8]; omega)
 have d1:=(dg (aT ls 0 (2 ^ d)) g.wf (by rw [a8]; omega)).2.2.1
 rw [a8] at d1
 obtain ⟨g2,x2⟩:=ak8 d (az (aT ls 0 (2 ^ d)) o).1 g1 (by rw [cn,a8]) (by omega)
 exact ⟨g2,x1.trans x2⟩
theorem aaJ:∀ (p:List Int) (h:Int) (i:Nat) {o:Or},G o->o.drawn+p.length<=4611686018427387000->G (dh h i p o).2/\X o (dh h i p o).2
 | [],h,i,o,g,_=>⟨g,X.refl o⟩
 | b::p,h,i,o,g,hb=>by
  simp only [List.length_cons] at hb
  obtain ⟨g1,x1⟩:=Gf g (cG h b i) (by omega)
  have d1:=(cJ g.wf (cG h b i) (by omega)).2.2.1
  obtain ⟨g2,x2⟩:=aaJ p (o.hash (cG h b i)).1 (i / 2) g1 (by omega)
  exact ⟨g2,x1.trans x2⟩
open Go Go.Proofs.YtljfdfghagiblaaGreat.S2
theorem pN (l:List Int) (i j:Nat) (x:Int) (h:i<l.length):(l.set i x).getD j 0=if j=i then x else l.getD j 0:=by
 rw [List.getD_eq_getElem?_getD,List.getD_eq_getElem?_getD,List.getElem?_set]
 by_cases e:i=j
 ·subst e
  rw [if_pos rfl,if_pos rfl,if_pos h]
  rfl
 ·rw [if_neg e,if_neg (fun h=>e h.symm)]
theorem ach (l:List ByteArray) (i j:Nat) (x:ByteArray) (h:i<l.length):(l.set i x).getD j eB=if j=i then x else l.getD j eB:=by
 rw [List.getD_eq_getElem?_getD,List.getD_eq_getElem?_getD,List.getElem?_set]
 by_cases e:i=j
 ·subst e
  rw [if_pos rfl,if_pos rfl,if_pos h]
  rfl
 ·rw [if_neg e,if_neg (fun h=>e h.symm)]
theorem Sc {T:Tab}:∀ (tr:List (List Int)) (h:Int) (i:Nat) (r:Int),oK T tr->KM tr->U h->(∀ t x,T t=some x->U x)->i<(tr.headD []).length->Ca T h i (bB tr i)=some r ->
  ∃ tr',oK T tr'/\KM tr'/\tr'.length=tr.length/\tr'.headD []=(tr.headD []).set i h/\fe tr'=r/\bB tr' i=bB tr i
 | [],h,i,r,ht,_,_,_,_,_=>ht.elim
 | [l],h,i,r,ht,hu,hh,hT,hi,hc=>by
  simp only [List.headD_cons] at hi
  have hl:l.length=1:=ht
  have hi0:i=0:=by omega
  subst hi0
  have hc:some h=some r:=hc
  cases hc
  refine ⟨[l.set 0 h],by show (l.set 0 h).length=1; rw [List.length_set]; exact hl,?_,rfl,rfl,?_,rfl⟩
  ·intro m hm x hx
   rw [List.mem_singleton] at hm
   subst hm
   rcases List.mem_or_eq_of_mem_set hx with hx | rfl
   ·exact hu l List.mem_cons_self x hx
   ·exact hh
  ·show (l.set 0 h).getD 0 0=h
   rw [pN _ _ _ _ hi,if_pos rfl]
 | l::l'::rest,h,i,r,ht,hu,hh,hT,hi,hc=>by
  obtain ⟨hlen,hnode,hrest⟩:=ht
  simp only [List.headD_cons] at hi
  have hp:bB (l::l'::rest) i=l.getD (Pj i) 0::bB (l'::rest) (i / 2):=rfl
  rw [hp] at hc
  simp only [Ca] at hc
  obtain ⟨h',hj,hc⟩:=Option.bind_eq_some_iff.1 hc
  have hi2:i / 2<l'.length:=by omega
  obtain ⟨tr',t1,t2,t3,t4,t5,t6⟩:=Sc (l'::rest) h' (i / 2) r hrest (fun m hm=>hu m (List.mem_cons_of_mem _ hm)) (hT _ _ hj) hT hi2 hc
  simp only [List.headD_cons] at t4
  match tr',t1,t2,t3,t4,t5,t6 with
  | m::rest',t1,t2,t3,t4,t5,t6 =>
  simp only [List.headD_cons] at t4
  subst t4
  refine ⟨l.set i h::l'.set (i / 2) h'::rest',⟨by simp only [List.length_set]; exact hlen,?_,t1⟩,?_,by simp only [List.length_cons] at t3 ⊢; omega,rfl,t5,?_⟩
  ·intro j hjl
   rw [List.length_set] at hjl
   rw [pN _ _ _ _ hi,pN _ _ _ _ hi,pN _ _ _ _ hi2]
   have hdiv:(i % 2=0/\2*(i / 2)=i)∨(i % 2=1/\2*(i / 2)+1=i):=by omega
   by_cases e:j=i / 2
   ·subst e
    rw [if_pos rfl]
    unfold cG Pj at hj
    rcases hdiv with ⟨hm,hd⟩ | ⟨hm,hd⟩
    ·rw [if_neg (by omega),if_pos hm] at hj
     rw [if_pos hd,if_neg (by omega),hd]
     exact hj
    ·rw [if_pos hm,if_neg (by omega)] at hj
     rw [if_neg (by omega),if_pos hd,show 2*(i / 2)=i-1 by omega]
     exact hj
   ·rw [if_neg e,if_neg (by omega),if_neg (by omega)]
    exact hnode j hjl
  ·intro m hm x hx
   rcases List.mem_cons.1 hm with rfl | hm
   ·rcases List.mem_or_eq_of_mem_set hx with hx | rfl
    ·exact hu l List.mem_cons_self x hx
    ·exact hh
   ·exact t2 m hm x hx
  ·show (l.set i h).getD (Pj i) 0::bB (l'.set (i / 2) h'::rest') (i / 2)=l.getD (Pj i) 0::bB (l'::rest) (i / 2)
   rw [t6,pN _ _ _ _ hi,if_neg (by unfold Pj; split<;>omega)]
structure HT (o:Or) (d:Nat) (ls:List ByteArray) (root:Int) (tr:List (List Int)):Prop where
 tree:oK o.tab tr
 allU:KM tr
 len:tr.length=d+1
 hl:(tr.headD []).length=2 ^ d
 lf:∀ i,i<2 ^ d->o.tab (bh (ls.getD i eB))=some ((tr.headD []).getD i 0)
 rt:fe tr=root
def Bg (o:Or) (d:Nat) (ls:List ByteArray) (root:Int):Prop:=∃ tr,HT o d ls root tr
theorem HT.ext {o o':Or} {d:Nat} {ls:List ByteArray} {root:Int} {tr:List (List Int)} (h:HT o d ls root tr) (x:X o o'):HT o' d ls root tr :=
 ⟨x.ext.tree h.tree,h.allU,h.len,h.hl,fun i hi=>x.ext.per _ _ (h.lf i hi),h.rt⟩
theorem Bg.ext {o o':Or} {d:Nat} {ls:List ByteArray} {root:Int} (h:Bg o d ls root) (x:X o o'):Bg o' d ls root:=by
 obtain ⟨tr,h⟩:=h
 exact ⟨tr,h.ext x⟩
theorem Jk {o:Or} {d:Nat} {ls:List ByteArray} (w:Wf o) (h8:d<=8) (hd:o.drawn<=3000000000000000000):HT (bi d ls o).2 d ls (fe (bi d ls o).1) (bi d ls o).1:=by
 obtain ⟨w3,x3,d3,t3,u3,len3,hl3,lf3⟩:=wR (ls:=ls) w h8 hd
 exact ⟨t3,u3,len3,hl3,lf3,rfl⟩
theorem Ge:∀ {tr:List (List Int)},KM tr->U (fe tr)
 | [],_=>⟨by decide,by decide⟩
 | [l],h=>iY (h l List.mem_cons_self) 0
 | l::l'::r,h=>Ge (tr:=l'::r) (fun m hm=>h m (List.mem_cons_of_mem _ hm))
theorem Bg.U {o:Or} {d:Nat} {ls:List ByteArray} {root:Int} (h:Bg o d ls root):Mk.U root:=by
 obtain ⟨tr,h⟩:=h
 rw [← h.rt]
 exact Ge h.allU
theorem Eh:∀ (t:List (List Int)) (j:Nat),(bB t j).length=t.length-1
 | [],j=>rfl
 | [l],j=>rfl
 | l::l'::r,j=>by
  have:=Eh (l'::r) (j / 2)
  simp only [bB,List.length_cons] at this ⊢
  omega
theorem UU:∀ {t:List (List Int)},KM t->∀ (j:Nat),∀ x∈bB t j,Mk.U x
 | [],h,j,x,hx=>by cases hx
 | [l],h,j,x,hx=>by cases hx
 | l::l'::r,h,j,x,hx=>by
  simp only [bB,List.mem_cons] at hx
  rcases hx with rfl | hx
  ·exact iY (h l List.mem_cons_self) _
  ·exact UU (t:=l'::r) (fun m hm=>h m (List.mem_cons_of_mem _ hm)) _ x hx
theorem HT.same {o:Or} {d:Nat} {ls ms:List ByteArray} {a b:Int} {ta tb:List (List Int)} (w:Wf o) (hb:o.bad=false) (h:HT o d ls a ta) (k:HT o d ms b tb):a=b↔∀ i,i<2 ^ d->ls.getD i eB=ms.getD i eB:=by
 have:=RG (IA w hb) ta tb h.tree k.tree h.allU k.allU (h.len.trans k.len.symm)
 rw [h.rt,k.rt] at this
 rw [this]
 constructor
 ·intro e i hi
  have h1:=h.lf i hi
  have h2:=k.lf i hi
  rw [e] at h1
  exact Lm (IA w hb _ _ _ h1 h2)
 ·intro e
  refine Bl (h.hl.trans k.hl.symm) fun i hi=>?_
  have h1:=h.lf i (by rw [← h.hl]; exact hi)
  have h2:=k.lf i (by rw [← h.hl]; exact hi)
  rw [e i (by rw [← h.hl]; exact hi)] at h1
  exact Option.some.inj (h1.symm.trans h2)
def fu (o:Or) (s:ByteArray) (i:Nat) (p:List Int):Int×Or:=dh (o.hash (bh s)).1 i p (o.hash (bh s)).2
theorem Ej {o:Or} (g:G o) {s:ByteArray} {i:Nat} {p:List Int} (hp:p.length<=8) (hd:o.drawn<=4000000000000000000) :
  G (fu o s i p).2/\X o (fu o s i p).2/\(fu o s i p).2.drawn<=o.drawn+9/\U (fu o s i p).1:=by
 obtain ⟨g1,x1⟩:=Gf g (bh s) (by omega)
 obtain ⟨w4,x4,d4,f4⟩:=cJ g.wf (bh s) (by omega)
 obtain ⟨w5,x5,d5,u5,f5⟩:=zm p (o.hash (bh s)).1 i w4 (by unfold P1; omega) (w4.val _ _ f4).1
 obtain ⟨g2,x2⟩:=aaJ p (o.hash (bh s)).1 i g1 (by omega)
 refine ⟨g2,x1.trans x2,?_,u5⟩
 show (dh (o.hash (bh s)).1 i p (o.hash (bh s)).2).2.drawn<=_
 omega
theorem GV {o:Or} (g:G o) {d i:Nat} {ls:List ByteArray} {root:Int} {tr:List (List Int)} {s:ByteArray} {p:List Int} (h:HT o d ls root tr) (hp:p.length=d) (h8:d<=8) (hu:∀ x,x∈p->U x) (hi:i<2 ^ d) (hd:o.drawn<=4000000000000000000)
  (hb:(fu o s i p).2.bad=false):(fu o s i p).1=root↔s=ls.getD i eB/\p=bB tr i:=by
 obtain ⟨w4,x4,d4,f4⟩:=cJ g.wf (bh s) (by omega)
 obtain ⟨w5,x5,d5,u5,f5⟩:=zm p (o.hash (bh s)).1 i w4 (by unfold P1; omega) (w4.val _ _ f4).1
 have hb5:(dh (o.hash (bh s)).1 i p (o.hash (bh s)).2).2.bad=false:=hb
 have ht5:=x5.tree (x4.tree h.tree)
 have h1:=Jt (IA w5 hb5) tr p (o.hash (bh s)).1 i (dh (o.hash (bh s)).1 i p (o.hash (bh s)).2).1 ht5 h.allU (w4.val _ _ f4).1 hu (atu w5) (by rw [h.hl]; exact hi) (by rw [hp,h.len]) f5
 rw [h.rt] at h1
 have hT1:(dh (o.hash (bh s)).1 i p (o.hash (bh s)).2).2.tab (bh s)=some (o.hash (bh s)).1:=x5.per _ _ f4
 have hT2:=x5.per _ _ (x4.per _ _ (h.lf i hi))
 refine h1.trans ?_
 constructor
 ·rintro ⟨e1,e2⟩
  exact ⟨Lm (IA w5 hb5 _ _ _ (hT1.trans (congrArg some e1)) hT2),e2⟩
 ·rintro ⟨e1,e2⟩
  refine ⟨?_,e2⟩
  rw [← e1] at hT2
  exact Option.some.inj (hT1.symm.trans hT2)
theorem UX {o:Or} (g:G o) {d i:Nat} {ls:List ByteArray} {root:Int} {tr:List (List Int)} {s:ByteArray} (h:HT o d ls root tr) (h8:d<=8) (hls:ls.length=2 ^ d) (hi:i<2 ^ d) (hd:o.drawn<=4000000000000000000) :
  ∃ tr',HT (fu o s i (bB tr i)).2 d (ls.set i s) (fu o s i (bB tr i)).1 tr'/\bB tr' i=bB tr i:=by
 have hpl:(bB tr i).length=d:=by rw [Eh,h.len]; rfl
 obtain ⟨w4,x4,d4,f4⟩:=cJ g.wf (bh s) (by omega)
 obtain ⟨w5,x5,d5,u5,f5⟩:=zm (bB tr i) (o.hash (bh s)).1 i w4 (by unfold P1; omega) (w4.val _ _ f4).1
 have ht5:=x5.tree (x4.tree h.tree)
 obtain ⟨tr',t1,t2,t3,t4,t5,t6⟩:=Sc tr (o.hash (bh s)).1 i _ ht5 h.allU (w4.val _ _ f4).1 (atu w5) (by rw [h.hl]; exact hi) f5
 refine ⟨tr',⟨t1,t2,t3.trans h.len,by rw [t4,List.length_set]; exact h.hl,fun j hj=>?_,t5⟩,t6⟩
 rw [t4,pN _ _ _ _ (by rw [h.hl]; exact hi),ach _ _ _ _ (by rw [hls]; exact hi)]
 by_cases e:j=i
 ·rw [if_pos e,if_pos e]
  exact x5.per _ _ f4
 ·rw [if_neg e,if_neg e]
  exact x5.per _ _ (x4.per _ _ (h.lf j hj))
end Go.Proofs.YtljfdfghagiblaaGreat.S2.Mk
