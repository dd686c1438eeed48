/- Trees of hashes over a table,in plain words: what a climb that ends at the root tells. -/
import Derived.Test.YtljfdfghagiblaaPoracle
import Derived.Test.YtljfdfghagiblaaGmerkle
set_option linter.unusedVariables false
set_option linter.unusedSimpArgs false
namespace Go.Proofs.Ytljfdfghagiblaa.S2.Mk
open Go Go.Proofs.Ytljfdfghagiblaa.S2
def leafT (t:ByteArray):ByteArray:=ByteArray.mk #[108,101,97,102] ++ t
def nodeT (a b:Int):ByteArray:=ByteArray.mk #[110,111,100,101] ++ putB a ++ putB b
theorem nodeT_inj {a b a' b':Int} (ha:U a) (hb:U b) (ha':U a') (hb':U b') (h:nodeT a b = nodeT a' b'):a = a'∧b = b':=by
  have h1:=congrArg bs h
  unfold nodeT at h1
  simp only [bs_append,bs_put,List.append_assoc] at h1
  have h2:=List.append_cancel_left h1
  obtain ⟨e1,e2⟩:=putL_pre64 (n:=a.toNat) (n':=a'.toNat) (by obtain ⟨h0,h1⟩:=ha; omega) (by obtain ⟨h0,h1⟩:=ha'; omega) h2
  have h3:putL b.toNat ++ [] = putL b'.toNat ++ []:=by rw [e2]
  obtain ⟨e3,_⟩:=putL_pre64 (n:=b.toNat) (n':=b'.toNat) (by obtain ⟨h0,h1⟩:=hb; omega) (by obtain ⟨h0,h1⟩:=hb'; omega) h3
  obtain ⟨h0,_⟩:=ha; obtain ⟨h0',_⟩:=ha'; obtain ⟨g0,_⟩:=hb; obtain ⟨g0',_⟩:=hb'
  omega
theorem leafT_inj {a b:ByteArray} (h:leafT a = leafT b):a = b:=by
  have h1:=congrArg bs h
  unfold leafT at h1
  simp only [bs_append] at h1
  exact bs_inj (List.append_cancel_left h1)
structure Wf (o:Or):Prop where
  d0:0≤o.drawn
  du:∀ x,x∈o.draws→U x
  cnt:∀ h,0≤mget eqI 0 h o.issued∧mget eqI 0 h o.issued≤o.drawn
  val:∀ t h,mfind eqS t o.hashes = some h→U h∧0 < mget eqI 0 h o.issued
  inj:o.bad = false→∀ t t' h,mfind eqS t o.hashes = some h→mfind eqS t' o.hashes = some h→t = t'
structure Ext (o o':Or):Prop where
  bad:o'.bad = false→o.bad = false
  per:∀ t h,mfind eqS t o.hashes = some h→mfind eqS t o'.hashes = some h
  up:o.drawn≤o'.drawn
theorem Ext.refl (o:Or):Ext o o:=⟨id,fun _ _ h=>h,Int.le_refl _⟩
theorem Ext.trans {a b c:Or} (h:Ext a b) (k:Ext b c):Ext a c:=⟨fun e=>h.bad (k.bad e),fun t x e=>k.per t x (h.per t x e),Int.le_trans h.up k.up⟩
theorem wf_new {draws:List Int} (h:∀ x,x∈draws→U x):Wf (Or.new draws) :=
  by
  refine ⟨Int.le_refl _,h,fun _=>⟨Int.le_refl _,Int.le_refl _⟩,fun t x e=>?_,fun _ t t' x e=>?_⟩
  · cases e
  · cases e
theorem nextD_U {draws:List Int} (h:∀ x,x∈draws→U x) (k:Int):U (nextD draws k):=by
  unfold nextD
  split
  · rename_i hk
    by_cases h2:k.toNat < draws.length
    · rw [List.getD_eq_getElem?_getD,List.getElem?_eq_getElem h2]
      exact h _ (List.getElem_mem h2)
    · rw [List.getD_eq_getElem?_getD,List.getElem?_eq_none (by omega)]
      exact ⟨by decide,by decide⟩
  · rw [u64w]
    exact ⟨by omega,by omega⟩
theorem hash_wf {o:Or} (w:Wf o) (t:ByteArray) (hd:o.drawn < 4611686018427387905):Wf (o.hash t).2∧Ext o (o.hash t).2∧(o.hash t).2.drawn≤o.drawn + 1∧mfind eqS t (o.hash t).2.hashes = some (o.hash t).1:=by
  unfold Or.hash
  cases hm:mfind eqS t o.hashes with
  | some h=>exact ⟨w,Ext.refl o,by show o.drawn≤o.drawn + 1; omega,hm⟩
  | none =>
    have hU:=nextD_U w.du o.drawn
    have hc:=w.cnt (nextD o.draws o.drawn)
    have hw:IntKind.i64.wrap (mget eqI 0 (nextD o.draws o.drawn) o.issued + 1) = mget eqI 0 (nextD o.draws o.drawn) o.issued + 1:=i64id (by omega) (by omega)
    have hdw:IntKind.i64.wrap (o.drawn + 1) = o.drawn + 1:=i64id (by have:=w.d0; omega) (by omega)
    have h0:=w.d0
    have hget:∀ h,mget eqI 0 h o.fresh.2.issued = if h = nextD o.draws o.drawn then mget eqI 0 (nextD o.draws o.drawn) o.issued + 1 else mget eqI 0 h o.issued:=by
      intro h
      show mget eqI 0 h (mput eqI (nextD o.draws o.drawn) (IntKind.i64.wrap (mget eqI 0 (nextD o.draws o.drawn) o.issued + 1)) o.issued) = _
      rw [hw]
      exact mget_mput eqI_l (κ:=Int) 0 h (nextD o.draws o.drawn) _ o.issued
    have hfind:∀ t',mfind eqS t' (mput eqS t o.fresh.1 o.fresh.2.hashes) = if t' = t then some (nextD o.draws o.drawn) else mfind eqS t' o.hashes:=fun t'=>mfind_mput eqS_l (κ:=ByteArray) t' t _ _
    refine ⟨⟨?_,w.du,?_,?_,?_⟩,⟨?_,?_,?_⟩,?_,?_⟩
    · show 0≤IntKind.i64.wrap (o.drawn + 1)
      rw [hdw]; omega
    · intro h
      show 0≤mget eqI 0 h o.fresh.2.issued∧mget eqI 0 h o.fresh.2.issued≤IntKind.i64.wrap (o.drawn + 1)
      rw [hget,hdw]
      have:=w.cnt h
      split <;> omega
    · intro t' h hf
      have hf:mfind eqS t' (mput eqS t o.fresh.1 o.fresh.2.hashes) = some h:=hf
      show U h∧0 < mget eqI 0 h o.fresh.2.issued
      rw [hfind] at hf
      rw [hget]
      split at hf
      · cases hf
        rw [if_pos rfl]
        exact ⟨hU,by omega⟩
      · obtain ⟨g1,g2⟩:=w.val t' h hf
        refine ⟨g1,?_⟩
        split
        · rename_i e; subst e; omega
        · exact g2
    · intro hb t1 t2 h h1 h2
      have hb:(o.bad || o.clash (nextD o.draws o.drawn)) = false:=hb
      rw [Bool.or_eq_false_iff] at hb
      have hcl:=hb.2
      unfold Or.clash at hcl
      rw [Bool.or_eq_false_iff,Bool.or_eq_false_iff] at hcl
      have hn:¬ mget eqI 0 (nextD o.draws o.drawn) o.issued > 0:=of_decide_eq_false hcl.2.1
      have h1:mfind eqS t1 (mput eqS t o.fresh.1 o.fresh.2.hashes) = some h:=h1
      have h2:mfind eqS t2 (mput eqS t o.fresh.1 o.fresh.2.hashes) = some h:=h2
      rw [hfind] at h1 h2
      by_cases e1:t1 = t <;> by_cases e2:t2 = t
      · rw [e1,e2]
      · rw [if_pos e1] at h1; rw [if_neg e2] at h2
        cases h1
        exact (hn (w.val t2 _ h2).2).elim
      · rw [if_neg e1] at h1; rw [if_pos e2] at h2
        cases h2
        exact (hn (w.val t1 _ h1).2).elim
      · rw [if_neg e1] at h1; rw [if_neg e2] at h2
        exact w.inj hb.1 t1 t2 h h1 h2
    · intro hb
      have hb:(o.bad || o.clash (nextD o.draws o.drawn)) = false:=hb
      exact (Bool.or_eq_false_iff.1 hb).1
    · intro t' h hf
      show mfind eqS t' (mput eqS t o.fresh.1 o.fresh.2.hashes) = some h
      rw [hfind]
      split
      · rename_i e; subst e; rw [hm] at hf; cases hf
      · exact hf
    · show o.drawn≤IntKind.i64.wrap (o.drawn + 1)
      rw [hdw]; omega
    · show IntKind.i64.wrap (o.drawn + 1)≤o.drawn + 1
      rw [hdw]; exact Int.le_refl _
    · show mfind eqS t (mput eqS t o.fresh.1 o.fresh.2.hashes) = _
      rw [hfind,if_pos rfl]
      rfl
def hashAll:List ByteArray→Or→List Int×Or
  | [],o=>([],o)
  | t :: l,o=>((o.hash t).1 :: (hashAll l (o.hash t).2).1,(hashAll l (o.hash t).2).2)
theorem hashAll_len:∀ (l:List ByteArray) (o:Or),(hashAll l o).1.length = l.length
  | [],o=>rfl
  | t :: l,o=>by simp only [hashAll,List.length_cons]; rw [hashAll_len]
theorem hashAll_wf:∀ (l:List ByteArray) {o:Or},Wf o→o.drawn + l.length≤4611686018427387905 →
    Wf (hashAll l o).2∧Ext o (hashAll l o).2∧(hashAll l o).2.drawn≤o.drawn + l.length∧∀ k,k < l.length→mfind eqS (l.getD k ByteArray.empty) (hashAll l o).2.hashes = some ((hashAll l o).1.getD k 0)
  | [],o,w,_=>⟨w,Ext.refl o,by simp [hashAll],fun k hk=>by simp at hk⟩
  | t :: l,o,w,hb=>by
    simp only [List.length_cons] at hb
    obtain ⟨w1,x1,d1,f1⟩:=hash_wf w t (by omega)
    obtain ⟨w2,x2,d2,f2⟩:=hashAll_wf l w1 (by omega)
    refine ⟨w2,x1.trans x2,?_,?_⟩
    · simp only [hashAll,List.length_cons]; omega
    · intro k hk
      cases k with
      | zero=>exact x2.per _ _ f1
      | succ k =>
        have:=f2 k (by simp at hk; omega)
        simpa [hashAll] using this
theorem hashAll_U {l:List ByteArray} {o:Or} (w:Wf o) (hb:o.drawn + l.length≤4611686018427387905):∀ x,x∈(hashAll l o).1→U x:=by
  intro x hx
  obtain ⟨k,hk,rfl⟩:=List.mem_iff_getElem.1 hx
  obtain ⟨w1,_,_,f⟩:=hashAll_wf l w hb
  have:=f k (by rw [hashAll_len] at hk; exact hk)
  rw [List.getD_eq_getElem?_getD (l:=(hashAll l o).1),List.getElem?_eq_getElem hk] at this
  exact (w1.val _ _ this).1
abbrev Tab:=ByteArray→Option Int
def TreeT (T:Tab):List (List Int)→Prop
  | []=>False
  | [l]=>l.length = 1
  | l :: l' :: r=>l.length = 2 * l'.length∧(∀ i,i < l'.length→T (nodeT (l.getD (2 * i) 0) (l.getD (2 * i + 1) 0)) = some (l'.getD i 0))∧TreeT T (l' :: r)
def rootT:List (List Int)→Int
  | []=>0
  | [l]=>l.getD 0 0
  | _ :: l' :: r=>rootT (l' :: r)
def sib (i:Nat):Nat:=if i % 2 = 0 then i + 1 else i - 1
def pathT:List (List Int)→Nat→List Int
  | l :: l' :: r,i=>l.getD (sib i) 0 :: pathT (l' :: r) (i / 2)
  | _,_=>[]
def joinT (h b:Int) (i:Nat):ByteArray:=if i % 2 = 1 then nodeT b h else nodeT h b
def climbT (T:Tab):Int→Nat→List Int→Option Int
  | h,_,[]=>some h
  | h,i,b :: p=>(T (joinT h b i)).bind fun h'=>climbT T h' (i / 2) p
def AllU (t:List (List Int)):Prop:=∀ l,l∈t→∀ x,x∈l→U x
theorem U_getD {l:List Int} (h:∀ x,x∈l→U x) (k:Nat):U (l.getD k 0):=by
  by_cases hk:k < l.length
  · rw [List.getD_eq_getElem?_getD,List.getElem?_eq_getElem hk]
    exact h _ (List.getElem_mem hk)
  · rw [List.getD_eq_getElem?_getD,List.getElem?_eq_none (by omega)]
    exact ⟨by decide,by decide⟩
theorem climb_root {T:Tab} (hT:∀ t t' h,T t = some h→T t' = some h→t = t'):∀ (tree:List (List Int)) (p:List Int) (h:Int) (i:Nat) (r:Int),TreeT T tree→AllU tree→U h→(∀ x,x∈p→U x)→(∀ t x,T t = some x→U x) →
    i < (tree.headD []).length→p.length + 1 = tree.length→climbT T h i p = some r→(r = rootT tree↔h = (tree.headD []).getD i 0∧p = pathT tree i)
  | [],p,h,i,r,ht,_,_,_,_,_,_,_=>ht.elim
  | [l],p,h,i,r,ht,hu,hh,hp,hv,hi,hl,hc=>by
    have:p = []:=List.length_eq_zero_iff.1 (by simpa using hl)
    subst this
    simp only [climbT,Option.some.injEq] at hc
    subst hc
    simp only [List.headD_cons] at hi ⊢
    have hl1:l.length = 1:=ht
    have hi0:i = 0:=by omega
    subst hi0
    simp [rootT,pathT]
  | l :: l' :: rest,[],h,i,r,ht,hu,hh,hp,hv,hi,hl,hc=>by simp at hl
  | l :: l' :: rest,b :: p,h,i,r,ht,hu,hh,hp,hv,hi,hl,hc=>by
    obtain ⟨hlen,hnode,hrest⟩:=ht
    simp only [List.headD_cons] at hi ⊢
    simp only [climbT] at hc
    obtain ⟨h',hj,hc⟩:=Option.bind_eq_some_iff.1 hc
    have hi2:i / 2 < l'.length:=by omega
    have ih:=climb_root hT (l' :: rest) p h' (i / 2) r hrest (fun m hm=>hu m (List.mem_cons_of_mem _ hm)) (hv _ _ hj) (fun x hx=>hp x (List.mem_cons_of_mem _ hx)) hv hi2 (by simpa using hl) hc
    have ul:∀ x,x∈l→U x:=hu l List.mem_cons_self
    have hn:=hnode (i / 2) hi2
    have hb:U b:=hp b List.mem_cons_self
    have hdiv:(i % 2 = 0∧2 * (i / 2) = i)∨(i % 2 = 1∧2 * (i / 2) + 1 = i):=by omega
    have e1:rootT (l :: l' :: rest) = rootT (l' :: rest):=rfl
    have e2:pathT (l :: l' :: rest) i = l.getD (sib i) 0 :: pathT (l' :: rest) (i / 2):=rfl
    have key:h' = l'.getD (i / 2) 0↔h = l.getD i 0∧b = l.getD (sib i) 0:=by
      constructor
      · intro e
        subst e
        have he:=hT _ _ _ hj hn
        unfold joinT at he
        rcases hdiv with ⟨hm,hd⟩ | ⟨hm,hd⟩
        · rw [if_neg (by omega)] at he
          obtain ⟨q1,q2⟩:=nodeT_inj hh hb (U_getD ul _) (U_getD ul _) he
          rw [hd] at q1 q2
          unfold sib
          rw [if_pos hm]
          exact ⟨q1,q2⟩
        · rw [if_pos hm] at he
          obtain ⟨q1,q2⟩:=nodeT_inj hb hh (U_getD ul _) (U_getD ul _) he
          unfold sib
          rw [if_neg (by omega),show i - 1 = 2 * (i / 2) by omega]
          rw [hd] at q2
          exact ⟨q2,q1⟩
      · rintro ⟨e3,e4⟩
        have he:joinT h b i = nodeT (l.getD (2 * (i / 2)) 0) (l.getD (2 * (i / 2) + 1) 0):=by
          unfold joinT
          rw [e3,e4]
          unfold sib
          rcases hdiv with ⟨hm,hd⟩ | ⟨hm,hd⟩
          · rw [if_neg (by omega),if_pos hm,hd]
          · rw [if_pos hm,if_neg (by omega),hd,show i - 1 = 2 * (i / 2) by omega]
        rw [he,hn] at hj
        exact (Option.some.inj hj).symm
    rw [e1,e2,ih]
    simp only [List.headD_cons,List.cons.injEq,key]
    constructor
    · rintro ⟨⟨q1,q2⟩,q3⟩; exact ⟨q1,q2,q3⟩
    · rintro ⟨q1,q2,q3⟩; exact ⟨⟨q1,q2⟩,q3⟩
theorem list_ext0 {l m:List Int} (hl:l.length = m.length) (h:∀ i,i < l.length→l.getD i 0 = m.getD i 0):l = m:=by
  apply List.ext_getElem hl
  intro i h1 h2
  have:=h i h1
  rwa [List.getD_eq_getElem?_getD,List.getD_eq_getElem?_getD,List.getElem?_eq_getElem h1,List.getElem?_eq_getElem h2] at this
theorem roots_eq {T:Tab} (hT:∀ t t' h,T t = some h→T t' = some h→t = t'):∀ (a b:List (List Int)),TreeT T a→TreeT T b→AllU a→AllU b→a.length = b.length→(rootT a = rootT b↔a.headD [] = b.headD [])
  | [],b,h,_,_,_,_=>h.elim
  | [l],b,ha,hb,_,_,hl=>by
    match b,hb,hl with
    | [m],hb,_ =>
      have h1:l.length = 1:=ha
      have h2:m.length = 1:=hb
      simp only [rootT,List.headD_cons]
      constructor
      · intro e
        refine list_ext0 (h1.trans h2.symm) fun i hi=>?_
        obtain rfl:i = 0:=by omega
        exact e
      · intro e
        rw [e]
  | l :: l' :: r,b,ha,hb,ua,ub,hl=>by
    match b,hb,ub,hl with
    | m :: m' :: s,hb,ub,hl =>
      obtain ⟨a1,a2,a3⟩:=ha
      obtain ⟨b1,b2,b3⟩:=hb
      have ih:=roots_eq hT (l' :: r) (m' :: s) a3 b3 (fun x hx=>ua x (List.mem_cons_of_mem _ hx)) (fun x hx=>ub x (List.mem_cons_of_mem _ hx)) (by simpa using hl)
      have e1:rootT (l :: l' :: r) = rootT (l' :: r):=rfl
      have e2:rootT (m :: m' :: s) = rootT (m' :: s):=rfl
      have ul:∀ x,x∈l→U x:=ua l List.mem_cons_self
      have um:∀ x,x∈m→U x:=ub m List.mem_cons_self
      rw [e1,e2,ih]
      simp only [List.headD_cons]
      constructor
      · intro e
        subst e
        refine list_ext0 (a1.trans b1.symm) fun i hi=>?_
        have h2:i / 2 < l'.length:=by omega
        obtain ⟨q1,q2⟩:=nodeT_inj (U_getD ul _) (U_getD ul _) (U_getD um _) (U_getD um _) (hT _ _ _ (a2 (i / 2) h2) (b2 (i / 2) h2))
        have hdiv:(i % 2 = 0∧2 * (i / 2) = i)∨(i % 2 = 1∧2 * (i / 2) + 1 = i):=by omega
        rcases hdiv with ⟨_,hd⟩ | ⟨_,hd⟩
        · rwa [hd] at q1
        · rwa [hd] at q2
      · intro e
        subst e
        refine list_ext0 (by omega) fun i hi=>?_
        have:=(a2 i hi).symm.trans (b2 i (by omega))
        exact Option.some.inj this
def texts (l:List Int):List ByteArray:=(pairsA l).map fun p=>nodeT p.1 p.2
def treeS:Nat→List Int→Or→List (List Int)×Or
  | 0,l,o=>([l],o)
  | d + 1,l,o=>(l :: (treeS d (hashAll (texts l) o).1 (hashAll (texts l) o).2).1,(treeS d (hashAll (texts l) o).1 (hashAll (texts l) o).2).2)
theorem texts_len (l:List Int):(texts l).length = l.length / 2:=by simp [texts,pairsA]
theorem texts_get {l:List Int} {i:Nat} (h:i < l.length / 2):(texts l).getD i ByteArray.empty = nodeT (l.getD (2 * i) 0) (l.getD (2 * i + 1) 0):=by
  rw [List.getD_eq_getElem?_getD,List.getElem?_eq_getElem (by rw [texts_len]; exact h)]
  simp [texts,pairsA]
theorem tree_head (d:Nat) (l:List Int) (o:Or):∃ r,(treeS d l o).1 = l :: r:=by
  cases d with
  | zero=>exact ⟨[],rfl⟩
  | succ d=>exact ⟨_,rfl⟩
theorem tree_len:∀ (d:Nat) (l:List Int) (o:Or),(treeS d l o).1.length = d + 1
  | 0,l,o=>rfl
  | d + 1,l,o=>by simp only [treeS,List.length_cons]; rw [tree_len]
def Or.tab (o:Or):Tab:=fun t=>mfind eqS t o.hashes
theorem TreeT_ext {T T':Tab} (h:∀ t x,T t = some x→T' t = some x):∀ {tree:List (List Int)},TreeT T tree→TreeT T' tree
  | [],ht=>ht
  | [l],ht=>ht
  | l :: l' :: r,⟨h1,h2,h3⟩=>⟨h1,fun i hi=>h _ _ (h2 i hi),TreeT_ext h h3⟩
theorem tree_wf:∀ (d:Nat) (l:List Int) {o:Or},Wf o→l.length = 2 ^ d→(∀ x,x∈l→U x)→o.drawn + 2 ^ d≤4611686018427387905 →
    Wf (treeS d l o).2∧Ext o (treeS d l o).2∧(treeS d l o).2.drawn≤o.drawn + 2 ^ d∧TreeT (treeS d l o).2.tab (treeS d l o).1∧AllU (treeS d l o).1
  | 0, l, o, w, hl, hu, hb => ⟨w, Ext.refl o, by show o.drawn ≤ o.drawn + 1; omega, (show l.length = 1 from hl), fun m hm x hx => by
      simp only [treeS,List.mem_singleton] at hm
      subst hm
      exact hu x hx⟩
  | d + 1,l,o,w,hl,hu,hb=>by
    have hp:(2:Int) ^ (d + 1) = 2 ^ d + 2 ^ d:=by rw [Int.pow_succ]; omega
    have hpn:(2:Nat) ^ (d + 1) = 2 ^ d + 2 ^ d:=by rw [Nat.pow_succ]; omega
    have hcast:((2 ^ d:Nat):Int) = 2 ^ d:=by simp
    have ht:(texts l).length = 2 ^ d:=by rw [texts_len,hl]; omega
    obtain ⟨w1,x1,d1,f1⟩:=hashAll_wf (texts l) w (by rw [ht]; omega)
    have u1:=hashAll_U (l:=texts l) w (by rw [ht]; omega)
    have l1:(hashAll (texts l) o).1.length = 2 ^ d:=by rw [hashAll_len,ht]
    obtain ⟨w2,x2,d2,t2,u2⟩:=tree_wf d (hashAll (texts l) o).1 w1 l1 u1 (by rw [ht] at d1; omega)
    refine ⟨w2,x1.trans x2,?_,?_,?_⟩
    · simp only [treeS]
      rw [ht] at d1
      omega
    · show TreeT (treeS d (hashAll (texts l) o).1 (hashAll (texts l) o).2).2.tab (l :: (treeS d (hashAll (texts l) o).1 (hashAll (texts l) o).2).1)
      obtain ⟨r,hr⟩:=tree_head d (hashAll (texts l) o).1 (hashAll (texts l) o).2
      rw [hr] at t2 ⊢
      refine ⟨by rw [l1,hl]; omega,fun i hi=>?_,t2⟩
      have:=f1 i (by rw [ht,← l1]; exact hi)
      rw [texts_get (by omega)] at this
      exact x2.per _ _ this
    · intro m hm x hx
      rcases List.mem_cons.1 hm with rfl | hm
      · exact hu x hx
      · exact u2 m hm x hx
end Go.Proofs.Ytljfdfghagiblaa.S2.Mk
