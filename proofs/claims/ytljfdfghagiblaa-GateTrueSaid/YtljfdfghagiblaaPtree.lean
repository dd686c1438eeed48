/- Laws of the tree of hashes: what climbs to the root,and trees with one root,in plain words. -/
import Derived.Test.YtljfdfghagiblaaPmk2
import Derived.Test.YtljfdfghagiblaaGr03
import Derived.Test.YtljfdfghagiblaaS2y
import Derived.Lib.Repeat
import Derived.Test.YtljfdfghagiblaaGmerkle
import Derived.Test.YtljfdfghagiblaaPlock
set_option linter.unusedVariables false
set_option linter.unusedSimpArgs false
namespace Go.Proofs.Ytljfdfghagiblaa.S2.Mk
open Go Go.Proofs.Ytljfdfghagiblaa.S2
theorem root_get:∀ {tr:List (List Int)},ShpL tr→(tr.getD (tr.length - 1) []).length = 1∧rootT tr = (tr.getD (tr.length - 1) []).getD 0 0
  | [],h=>h.elim
  | [l],h=>⟨h,rfl⟩
  | l :: l' :: r,h=>by
    obtain ⟨h1,h2⟩:=root_get (tr:=l' :: r) h.2
    have e:(l :: l' :: r).getD ((l :: l' :: r).length - 1) [] = (l' :: r).getD ((l' :: r).length - 1) []:=by
      simp only [List.length_cons,List.getD_eq_getElem?_getD]
      rw [show r.length + 1 + 1 - 1 = (r.length + 1 - 1) + 1 by omega,List.getElem?_cons_succ]
    rw [e]
    exact ⟨h1,h2⟩
theorem tab_inj {o:Or} (w:Wf o) (hb:o.bad = false):∀ t t' h,o.tab t = some h→o.tab t' = some h→t = t':=w.inj hb
theorem tab_U {o:Or} (w:Wf o):∀ t x,o.tab t = some x→U x:=fun t x h=>(w.val t x h).1
theorem Ext.tree {a b:Or} (x:Ext a b) {t:List (List Int)} (h:TreeT a.tab t):TreeT b.tab t:=TreeT_ext x.per h
theorem meet_wf {o:Or} (w:Wf o) (h:Int):Wf (o.meet h)∧(o.meet h).drawn = o.drawn:=by
  unfold Or.meet
  split
  · exact ⟨⟨w.d0,w.du,w.cnt,w.val,w.inj⟩,rfl⟩
  · exact ⟨w,rfl⟩
end Go.Proofs.Ytljfdfghagiblaa.S2.Mk
set_option linter.unusedVariables false
set_option linter.unusedSimpArgs false
namespace Go.Proofs.Ytljfdfghagiblaa.S2.Mk
open Go Go.Proofs.Ytljfdfghagiblaa.S2
abbrev isd (o:Or) (h:Int):Int:=mget eqI 0 h o.issued
abbrev told1 (o:Or) (k n c:Int) (a:ByteArray) (i:Int):Prop:=mfind eqD (k,n,c,a) o.opens = some i
structure G (o:Or):Prop where
  wf:Wf o
  told:o.told
  iss:∀ k n c a i,told1 o k n c a i→0 < isd o c
  sok:o.bad = false→∀ k n a p c,mfind eqK (k,n,a,p) o.seals = some c→∃ i,told1 o k n c a i∧o.plains.getD (i - 1).toNat ByteArray.empty = p
  sU:∀ k n a p c,mfind eqK (k,n,a,p) o.seals = some c→U c
  sI:∀ k n a p c,mfind eqK (k,n,a,p) o.seals = some c→0 < isd o c
  pl:(o.plains.length:Int)≤o.drawn
structure X (o o':Or):Prop where
  ext:Ext o o'
  opn:∀ k n c a i,told1 o k n c a i→told1 o' k n c a i
  pll:o.plains.length≤o'.plains.length
  pls:∀ j,j < o.plains.length→o'.plains.getD j ByteArray.empty = o.plains.getD j ByteArray.empty
  iss:∀ h,isd o h≤isd o' h
theorem X.refl (o:Or):X o o:=⟨Ext.refl o,fun _ _ _ _ _ h=>h,Nat.le_refl _,fun _ _=>rfl,fun _=>Int.le_refl _⟩
theorem X.trans {a b c:Or} (h:X a b) (k:X b c):X a c :=
  ⟨h.ext.trans k.ext,fun _ _ _ _ _ e=>k.opn _ _ _ _ _ (h.opn _ _ _ _ _ e),Nat.le_trans h.pll k.pll,fun j hj=>(k.pls j (Nat.lt_of_lt_of_le hj h.pll)).trans (h.pls j hj),fun x=>Int.le_trans (h.iss x) (k.iss x)⟩
theorem fresh_get {o:Or} (w:Wf o) (hd:o.drawn < 4611686018427387905) (h:Int):isd o.fresh.2 h = if h = nextD o.draws o.drawn then isd o (nextD o.draws o.drawn) + 1 else isd o h:=by
  have hc:=w.cnt (nextD o.draws o.drawn)
  show mget eqI 0 h (mput eqI (nextD o.draws o.drawn) (IntKind.i64.wrap (mget eqI 0 (nextD o.draws o.drawn) o.issued + 1)) o.issued) = _
  rw [i64id (by omega) (by omega)]
  exact mget_mput eqI_l (κ:=Int) 0 h (nextD o.draws o.drawn) _ o.issued
theorem fresh_dr {o:Or} (w:Wf o) (hd:o.drawn < 4611686018427387905):o.fresh.2.drawn = o.drawn + 1:=by
  show IntKind.i64.wrap (o.drawn + 1) = _
  have:=w.d0
  exact i64id (by omega) (by omega)
theorem fresh_bad {o:Or} (h:o.fresh.2.bad = false):o.bad = false∧isd o o.fresh.1≤0∧o.fresh.1≠0:=by
  have hb:(o.bad || o.clash (nextD o.draws o.drawn)) = false:=h
  rw [Bool.or_eq_false_iff] at hb
  have hcl:=hb.2
  unfold Or.clash at hcl
  rw [Bool.or_eq_false_iff,Bool.or_eq_false_iff] at hcl
  have hn:¬ mget eqI 0 (nextD o.draws o.drawn) o.issued > 0:=of_decide_eq_false hcl.2.1
  refine ⟨hb.1,by show mget eqI 0 (nextD o.draws o.drawn) o.issued≤0; omega,fun e=>?_⟩
  have h0:(nextD o.draws o.drawn == 0) = false:=hcl.1
  have e':nextD o.draws o.drawn = 0:=e
  rw [e'] at h0
  cases h0
theorem fresh_G {o:Or} (g:G o) (hd:o.drawn < 4611686018427387905):G o.fresh.2∧X o o.fresh.2∧U o.fresh.1∧0 < isd o.fresh.2 o.fresh.1:=by
  have w:=g.wf
  have hget:=fresh_get w hd
  have hdr:=fresh_dr w hd
  have hU:=nextD_U w.du o.drawn
  have hmono:∀ h,isd o h≤isd o.fresh.2 h:=by
    intro h
    rw [hget]
    split
    · rename_i e; rw [e]; omega
    · exact Int.le_refl _
  have h0:=w.d0
  refine ⟨⟨⟨by omega,w.du,?_,?_,?_⟩,g.told,?_,?_,g.sU,?_,?_⟩,⟨⟨fun hb=>(fresh_bad hb).1,fun _ _ h=>h,by omega⟩,fun _ _ _ _ _ h=>h,Nat.le_refl _,fun _ _=>rfl,hmono⟩,hU,?_⟩
  · intro h
    have hc:=w.cnt h
    have hc2:=w.cnt (nextD o.draws o.drawn)
    show 0≤isd o.fresh.2 h∧isd o.fresh.2 h≤o.fresh.2.drawn
    rw [hget,hdr]
    unfold isd
    split <;> omega
  · intro t h hf
    obtain ⟨g1,g2⟩:=w.val t h hf
    exact ⟨g1,Int.lt_of_lt_of_le g2 (hmono h)⟩
  · intro hb t t' h h1 h2
    exact w.inj (fresh_bad hb).1 t t' h h1 h2
  · intro k n c a i h
    exact Int.lt_of_lt_of_le (g.iss k n c a i h) (hmono c)
  · intro hb k n a p c h
    exact g.sok (fresh_bad hb).1 k n a p c h
  · intro k n a p c h
    exact Int.lt_of_lt_of_le (g.sI k n a p c h) (hmono c)
  · have:=g.pl
    show (o.plains.length:Int)≤o.fresh.2.drawn
    omega
  · rw [hget]
    have:=w.cnt (nextD o.draws o.drawn)
    rw [if_pos (show o.fresh.1 = nextD o.draws o.drawn from rfl)]
    show 0 < mget eqI 0 (nextD o.draws o.drawn) o.issued + 1
    omega
theorem hash_G {o:Or} (g:G o) (t:ByteArray) (hd:o.drawn < 4611686018427387905):G (o.hash t).2∧X o (o.hash t).2:=by
  obtain ⟨w1,x1,d1,f1⟩:=hash_wf g.wf t hd
  unfold Or.hash at w1 x1 ⊢
  cases hm:mfind eqS t o.hashes with
  | some h=>exact ⟨g,X.refl o⟩
  | none =>
    rw [hm] at w1 x1
    obtain ⟨g2,x2,_,_⟩:=fresh_G g hd
    exact ⟨⟨w1,g2.told,g2.iss,g2.sok,g2.sU,g2.sI,g2.pl⟩,⟨x1,x2.opn,x2.pll,x2.pls,x2.iss⟩⟩
theorem meet_G {o:Or} (g:G o) (h:Int):G (o.meet h)∧X o (o.meet h):=by
  have w:=meet_wf g.wf h
  unfold Or.meet at w ⊢
  by_cases e:mget eqI 0 h o.issued = 0
  · rw [if_pos e] at w ⊢
    exact ⟨⟨w.1,g.told,g.iss,g.sok,g.sU,g.sI,g.pl⟩,⟨⟨id,fun _ _ h=>h,Int.le_refl _⟩,fun _ _ _ _ _ h=>h,Nat.le_refl _,fun _ _=>rfl,fun _=>Int.le_refl _⟩⟩
  · rw [if_neg e]
    exact ⟨g,X.refl o⟩
theorem getD_app {l:List ByteArray} {p:ByteArray} {j:Nat} (h:j < l.length):(l ++ [p]).getD j ByteArray.empty = l.getD j ByteArray.empty:=by
  rw [List.getD_eq_getElem?_getD,List.getD_eq_getElem?_getD,List.getElem?_append_left h]
theorem getD_app_last {l:List ByteArray} {p:ByteArray}:(l ++ [p]).getD l.length ByteArray.empty = p:=by
  rw [List.getD_eq_getElem?_getD,List.getElem?_append_right (Nat.le_refl _)]
  simp
theorem mget_zero_none {κ:Type} {eq:κ→κ→Bool} {k:κ} {es:List (κ×Int)} (h:mfind eq k es = none):mget eq 0 k es = 0:=by unfold mget; rw [h]; rfl
theorem mem_mput {κ ν:Type} {eq:κ→κ→Bool} {k:κ} {v:ν}:∀ {es:List (κ×ν)} {x:κ×ν},x∈mput eq k v es→x∈es∨x.2 = v
  | [],x,h=>by
    simp only [mput,List.mem_singleton] at h
    exact .inr (by rw [h])
  | e :: es,x,h=>by
    simp only [mput] at h
    split at h
    · rcases List.mem_cons.1 h with rfl | h
      · exact .inr rfl
      · exact .inl (List.mem_cons_of_mem _ h)
    · rcases List.mem_cons.1 h with rfl | h
      · exact .inl List.mem_cons_self
      · rcases mem_mput h with h | h
        · exact .inl (List.mem_cons_of_mem _ h)
        · exact .inr h
theorem seal_G {o:Or} (g:G o) (k n:Int) (a p:ByteArray) (hd:o.drawn < 4611686018427387905):G (o.seal k n a p).2∧X o (o.seal k n a p).2∧U (o.seal k n a p).1∧(o.seal k n a p).2.drawn≤o.drawn + 1∧0 < isd (o.seal k n a p).2 (o.seal k n a p).1 ∧
    ((o.seal k n a p).2.bad = false→∃ i,told1 (o.seal k n a p).2 k n (o.seal k n a p).1 a i∧(o.seal k n a p).2.plains.getD (i - 1).toNat ByteArray.empty = p):=by
  unfold Or.seal
  cases hm:mfind eqK (k,n,a,p) o.seals with
  | some h=>exact ⟨g,X.refl o,g.sU _ _ _ _ _ hm,by show o.drawn≤o.drawn + 1; omega,g.sI _ _ _ _ _ hm,fun hb=>g.sok hb _ _ _ _ _ hm⟩
  | none =>
    obtain ⟨g1,x1,u1,i1⟩:=fresh_G g hd
    have hdr:=fresh_dr g.wf hd
    dsimp only
    generalize hc:o.fresh.1 = c at u1 i1
    have hpl:o.fresh.2.plains = o.plains:=rfl
    have hop:o.fresh.2.opens = o.opens:=rfl
    have hse:o.fresh.2.seals = o.seals:=rfl
    have hlen:((o.fresh.2.plains ++ [p]).length:Int) = (o.plains.length:Int) + 1:=by rw [hpl]; simp
    generalize hO:(if mget eqD 0 (k,n,c,a) o.fresh.2.opens = 0 then mput eqD (k,n,c,a) ((o.fresh.2.plains ++ [p]).length:Int) o.fresh.2.opens else o.fresh.2.opens) = O
    have hfS:∀ k' n' a' p',mfind eqK (k',n',a',p') (mput eqK (k,n,a,p) c o.fresh.2.seals) = if (k',n',a',p') = (k,n,a,p) then some c else mfind eqK (k',n',a',p') o.seals:=fun k' n' a' p'=>mfind_mput eqK_l (κ:=SealK) (k',n',a',p') (k,n,a,p) c o.fresh.2.seals
    have hfO:∀ k' n' c' a',mfind eqD (k',n',c',a') O = if mget eqD 0 (k,n,c,a) o.opens = 0∧(k',n',c',a') = (k,n,c,a) then some ((o.fresh.2.plains ++ [p]).length:Int) else mfind eqD (k',n',c',a') o.opens:=by
      intro k' n' c' a'
      rw [← hO]
      by_cases e:mget eqD 0 (k,n,c,a) o.opens = 0
      · rw [if_pos (by rw [hop]; exact e)]
        rw [mfind_mput eqD_l (κ:=ToldK) (k',n',c',a') (k,n,c,a) _ o.fresh.2.opens]
        by_cases e2:(k',n',c',a') = (k,n,c,a)
        · rw [if_pos e2,if_pos ⟨e,e2⟩]
        · rw [if_neg e2,if_neg (fun h=>e2 h.2)]
          rfl
      · rw [if_neg (by rw [hop]; exact e),if_neg (fun h=>e h.1)]
        rfl
    have hold:∀ k' n' c' a' i,told1 o k' n' c' a' i→mfind eqD (k',n',c',a') O = some i:=by
      intro k' n' c' a' i h
      rw [hfO,if_neg]
      · exact h
      · rintro ⟨e,e2⟩
        have h':mfind eqD (k',n',c',a') o.opens = some i:=h
        rw [e2] at h'
        have:mget eqD 0 (k,n,c,a) o.opens = i:=by unfold mget; rw [h']; rfl
        obtain ⟨x,hx,hxi⟩:=mfind_mem h'
        have:=g.told x hx
        omega
    have hnone:o.fresh.2.bad = false→mget eqD 0 (k,n,c,a) o.opens = 0:=by
      intro hb
      have hf:=(fresh_bad hb).2.1
      rw [hc] at hf
      cases hq:mfind eqD (k,n,c,a) o.opens with
      | none=>exact mget_zero_none hq
      | some i =>
        have:=g.iss k n c a i hq
        omega
    have hOm:∀ x∈O,0 < x.2∧x.2≤((o.fresh.2.plains ++ [p]).length:Int):=by
      intro x hx
      rw [← hO] at hx
      have key:∀ y∈o.opens,0 < y.2∧y.2≤((o.fresh.2.plains ++ [p]).length:Int):=by
        intro y hy
        have:=g.told y hy
        rw [hlen]
        omega
      split at hx
      · rcases mem_mput hx with h | h
        · exact key x h
        · rw [h,hlen]; omega
      · exact key x hx
    have w1:=g1.wf
    refine ⟨⟨⟨w1.d0,w1.du,w1.cnt,w1.val,w1.inj⟩,hOm,?_,?_,?_,?_,?_⟩,⟨⟨x1.ext.bad,x1.ext.per,x1.ext.up⟩,hold,?_,?_,x1.iss⟩,u1,?_,i1,?_⟩
    · intro k' n' c' a' i h
      have h:mfind eqD (k',n',c',a') O = some i:=h
      show 0 < isd o.fresh.2 c'
      rw [hfO] at h
      split at h
      · rename_i e
        have:=e.2
        simp only [Prod.mk.injEq] at this
        rw [this.2.2.1]
        exact i1
      · exact Int.lt_of_lt_of_le (g.iss _ _ _ _ _ h) (x1.iss c')
    · intro hb k' n' a' p' c' hh
      have h:mfind eqK (k',n',a',p') (mput eqK (k,n,a,p) c o.fresh.2.seals) = some c':=hh
      clear hh
      show ∃ i,mfind eqD (k',n',c',a') O = some i∧(o.fresh.2.plains ++ [p]).getD (i - 1).toNat ByteArray.empty = p'
      rw [hfS] at h
      split at h
      · rename_i e
        simp only [Prod.mk.injEq] at e
        obtain ⟨rfl,rfl,rfl,rfl⟩:=e
        obtain rfl:=Option.some.inj h
        refine ⟨((o.fresh.2.plains ++ [p']).length:Int),by rw [hfO,if_pos ⟨hnone hb,rfl⟩],?_⟩
        rw [hlen,show ((o.plains.length:Int) + 1 - 1).toNat = o.plains.length by omega,hpl]
        exact getD_app_last
      · obtain ⟨i,h1,h2⟩:=g.sok (fresh_bad hb).1 _ _ _ _ _ h
        refine ⟨i,hold _ _ _ _ _ h1,?_⟩
        obtain ⟨x,hx,hxi⟩:=mfind_mem h1
        have:=g.told x hx
        rw [hpl,getD_app (by omega)]
        exact h2
    · intro k' n' a' p' c' h
      have h:mfind eqK (k',n',a',p') (mput eqK (k,n,a,p) c o.fresh.2.seals) = some c':=h
      rw [hfS] at h
      split at h
      · cases h; exact u1
      · exact g.sU _ _ _ _ _ h
    · intro k' n' a' p' c' h
      have h:mfind eqK (k',n',a',p') (mput eqK (k,n,a,p) c o.fresh.2.seals) = some c':=h
      show 0 < isd o.fresh.2 c'
      rw [hfS] at h
      split at h
      · cases h; exact i1
      · exact Int.lt_of_lt_of_le (g.sI _ _ _ _ _ h) (x1.iss c')
    · show ((o.fresh.2.plains ++ [p]).length:Int)≤o.fresh.2.drawn
      have:=g.pl
      rw [hlen,hdr]
      omega
    · show o.plains.length≤(o.plains ++ [p]).length
      simp
    · intro j hj
      exact getD_app hj
    · show o.fresh.2.drawn≤_
      omega
    · intro hb
      show ∃ i,mfind eqD (k,n,c,a) O = some i∧(o.fresh.2.plains ++ [p]).getD (i - 1).toNat ByteArray.empty = p
      refine ⟨((o.fresh.2.plains ++ [p]).length:Int),by rw [hfO,if_pos ⟨hnone hb,rfl⟩],?_⟩
      rw [hlen,show ((o.plains.length:Int) + 1 - 1).toNat = o.plains.length by omega,hpl]
      exact getD_app_last
theorem lock_G {o:Or} (g:G o) (key volume sector version epoch:Int) (p:ByteArray) (hd:o.drawn < 4611686018427387000) :
    G (o.lock key volume sector version epoch p).2.2∧X o (o.lock key volume sector version epoch p).2.2∧U (o.lock key volume sector version epoch p).1∧U (o.lock key volume sector version epoch p).2.1∧(o.lock key volume sector version epoch p).2.2.drawn≤o.drawn + 2 ∧
      0 < isd (o.lock key volume sector version epoch p).2.2 (o.lock key volume sector version epoch p).1∧0 < isd (o.lock key volume sector version epoch p).2.2 (o.lock key volume sector version epoch p).2.1 ∧
      ((o.lock key volume sector version epoch p).2.2.bad = false→isd o (o.lock key volume sector version epoch p).1≤0∧∃ i,told1 (o.lock key volume sector version epoch p).2.2 key (o.lock key volume sector version epoch p).1 (o.lock key volume sector version epoch p).2.1 (fourB volume sector version epoch) i∧(o.lock key volume sector version epoch p).2.2.plains.getD (i - 1).toNat ByteArray.empty = p):=by
  unfold Or.lock
  dsimp only
  obtain ⟨g1,x1,u1,i1⟩:=fresh_G g (by omega)
  have hdr:=fresh_dr g.wf (by omega)
  obtain ⟨g2,x2,u2,d2,i2,t2⟩:=seal_G g1 key o.fresh.1 (fourB volume sector version epoch) p (by omega)
  exact ⟨g2,x1.trans x2,u1,u2,by omega,Int.lt_of_lt_of_le i1 (x2.iss _),i2,fun hb=>⟨(fresh_bad (x2.ext.bad hb)).2.1,t2 hb⟩⟩
theorem opn_G {o:Or} (g:G o) (k n:Int) (a:ByteArray) (c:Int):G (o.opn k n a c).2.2∧X o (o.opn k n a c).2.2∧(o.opn k n a c).2.2.drawn = o.drawn:=by
  unfold Or.opn
  cases hq:mfind eqD (k,n,c,a) o.opens with
  | some i=>exact ⟨g,X.refl o,rfl⟩
  | none=>exact ⟨(meet_G g c).1,(meet_G g c).2,(meet_wf g.wf c).2⟩
theorem new_G {draws:List Int} (h:∀ x,x∈draws→U x):G (Or.new draws):=by
  refine ⟨wf_new h,?_,?_,?_,?_,?_,Int.le_refl _⟩
  · intro x hx; cases hx
  · intro k n c a i hx; cases hx
  · intro _ k n a p c hx; cases hx
  · intro k n a p c hx; cases hx
  · intro k n a p c hx; cases hx
theorem hashAll_G:∀ (l:List ByteArray) {o:Or},G o→o.drawn + l.length≤4611686018427387000→G (hashAll l o).2∧X o (hashAll l o).2
  | [],o,g,_=>⟨g,X.refl o⟩
  | t :: l,o,g,hb=>by
    simp only [List.length_cons] at hb
    obtain ⟨g1,x1⟩:=hash_G g t (by omega)
    have d1:=(hash_wf g.wf t (by omega)).2.2.1
    obtain ⟨g2,x2⟩:=hashAll_G l g1 (by omega)
    exact ⟨g2,x1.trans x2⟩
theorem tree_G:∀ (d:Nat) (l:List Int) {o:Or},G o→l.length = 2 ^ d→o.drawn + 2 ^ d≤4611686018427387000→G (treeS d l o).2∧X o (treeS d l o).2
  | 0,l,o,g,_,_=>⟨g,X.refl o⟩
  | d + 1,l,o,g,hl,hb=>by
    have hp:(2:Int) ^ (d + 1) = 2 ^ d + 2 ^ d:=by rw [Int.pow_succ]; omega
    have hpn:(2:Nat) ^ (d + 1) = 2 ^ d + 2 ^ d:=by rw [Nat.pow_succ]; omega
    have hcast:((2 ^ d:Nat):Int) = 2 ^ d:=by simp
    have ht:(texts l).length = 2 ^ d:=by rw [texts_len,hl]; omega
    obtain ⟨g1,x1⟩:=hashAll_G (texts l) g (by rw [ht]; omega)
    have d1:=(hashAll_wf (texts l) g.wf (by rw [ht]; omega)).2.2.1
    rw [ht] at d1
    obtain ⟨g2,x2⟩:=tree_G d (hashAll (texts l) o).1 g1 (by rw [hashAll_len,ht]) (by omega)
    exact ⟨g2,x1.trans x2⟩
theorem build_G {d:Nat} {ls:List ByteArray} {o:Or} (g:G o) (h8:d≤8) (hd:o.drawn≤3000000000000000000):G (buildS d ls o).2∧X o (buildS d ls o).2:=by
  have hsmall:2 ^ d≤2 ^ 8:=Nat.pow_le_pow_right (by decide) h8
  have hcast:(2:Int) ^ d = ((2 ^ d:Nat):Int):=by simp
  obtain ⟨g1,x1⟩:=hashAll_G (leafTs ls 0 (2 ^ d)) g (by rw [leafTs_len]; omega)
  have d1:=(hashAll_wf (leafTs ls 0 (2 ^ d)) g.wf (by rw [leafTs_len]; omega)).2.2.1
  rw [leafTs_len] at d1
  obtain ⟨g2,x2⟩:=tree_G d (hashAll (leafTs ls 0 (2 ^ d)) o).1 g1 (by rw [hashAll_len,leafTs_len]) (by omega)
  exact ⟨g2,x1.trans x2⟩
theorem climb_G:∀ (p:List Int) (h:Int) (i:Nat) {o:Or},G o→o.drawn + p.length≤4611686018427387000→G (climbS h i p o).2∧X o (climbS h i p o).2
  | [],h,i,o,g,_=>⟨g,X.refl o⟩
  | b :: p,h,i,o,g,hb=>by
    simp only [List.length_cons] at hb
    obtain ⟨g1,x1⟩:=hash_G g (joinT h b i) (by omega)
    have d1:=(hash_wf g.wf (joinT h b i) (by omega)).2.2.1
    obtain ⟨g2,x2⟩:=climb_G p (o.hash (joinT h b i)).1 (i / 2) g1 (by omega)
    exact ⟨g2,x1.trans x2⟩
end Go.Proofs.Ytljfdfghagiblaa.S2.Mk
set_option linter.unusedVariables false
set_option linter.unusedSimpArgs false
namespace Go.Proofs.Ytljfdfghagiblaa.S2.Mk
open Go Go.Proofs.Ytljfdfghagiblaa.S2
theorem getDi_set (l:List Int) (i j:Nat) (x:Int) (h:i < l.length):(l.set i x).getD j 0 = if j = i then x else l.getD j 0:=by
  rw [List.getD_eq_getElem?_getD,List.getD_eq_getElem?_getD,List.getElem?_set]
  by_cases e:i = j
  · subst e
    rw [if_pos rfl,if_pos rfl,if_pos h]
    rfl
  · rw [if_neg e,if_neg (fun h=>e h.symm)]
theorem getDs_set (l:List ByteArray) (i j:Nat) (x:ByteArray) (h:i < l.length):(l.set i x).getD j ByteArray.empty = if j = i then x else l.getD j ByteArray.empty:=by
  rw [List.getD_eq_getElem?_getD,List.getD_eq_getElem?_getD,List.getElem?_set]
  by_cases e:i = j
  · subst e
    rw [if_pos rfl,if_pos rfl,if_pos h]
    rfl
  · rw [if_neg e,if_neg (fun h=>e h.symm)]
theorem set_tree {T:Tab}:∀ (tr:List (List Int)) (h:Int) (i:Nat) (r:Int),TreeT T tr→AllU tr→U h→(∀ t x,T t = some x→U x)→i < (tr.headD []).length→climbT T h i (pathT tr i) = some r →
    ∃ tr',TreeT T tr'∧AllU tr'∧tr'.length = tr.length∧tr'.headD [] = (tr.headD []).set i h∧rootT tr' = r∧pathT tr' i = pathT tr i
  | [],h,i,r,ht,_,_,_,_,_=>ht.elim
  | [l],h,i,r,ht,hu,hh,hT,hi,hc=>by
    simp only [List.headD_cons] at hi
    have hl:l.length = 1:=ht
    have hi0:i = 0:=by omega
    subst hi0
    have hc:some h = some r:=hc
    cases hc
    refine ⟨[l.set 0 h],by show (l.set 0 h).length = 1; rw [List.length_set]; exact hl,?_,rfl,rfl,?_,rfl⟩
    · intro m hm x hx
      rw [List.mem_singleton] at hm
      subst hm
      rcases List.mem_or_eq_of_mem_set hx with hx | rfl
      · exact hu l List.mem_cons_self x hx
      · exact hh
    · show (l.set 0 h).getD 0 0 = h
      rw [getDi_set _ _ _ _ hi,if_pos rfl]
  | l :: l' :: rest,h,i,r,ht,hu,hh,hT,hi,hc=>by
    obtain ⟨hlen,hnode,hrest⟩:=ht
    simp only [List.headD_cons] at hi
    have hp:pathT (l :: l' :: rest) i = l.getD (sib i) 0 :: pathT (l' :: rest) (i / 2):=rfl
    rw [hp] at hc
    simp only [climbT] at hc
    obtain ⟨h',hj,hc⟩:=Option.bind_eq_some_iff.1 hc
    have hi2:i / 2 < l'.length:=by omega
    obtain ⟨tr',t1,t2,t3,t4,t5,t6⟩:=set_tree (l' :: rest) h' (i / 2) r hrest (fun m hm=>hu m (List.mem_cons_of_mem _ hm)) (hT _ _ hj) hT hi2 hc
    simp only [List.headD_cons] at t4
    match tr',t1,t2,t3,t4,t5,t6 with
    | m :: rest',t1,t2,t3,t4,t5,t6 =>
    simp only [List.headD_cons] at t4
    subst t4
    refine ⟨l.set i h :: l'.set (i / 2) h' :: rest',⟨by simp only [List.length_set]; exact hlen,?_,t1⟩,?_,by simp only [List.length_cons] at t3 ⊢; omega,rfl,t5,?_⟩
    · intro j hjl
      rw [List.length_set] at hjl
      rw [getDi_set _ _ _ _ hi,getDi_set _ _ _ _ hi,getDi_set _ _ _ _ hi2]
      have hdiv:(i % 2 = 0∧2 * (i / 2) = i)∨(i % 2 = 1∧2 * (i / 2) + 1 = i):=by omega
      by_cases e:j = i / 2
      · subst e
        rw [if_pos rfl]
        unfold joinT sib at hj
        rcases hdiv with ⟨hm,hd⟩ | ⟨hm,hd⟩
        · rw [if_neg (by omega),if_pos hm] at hj
          rw [if_pos hd,if_neg (by omega),hd]
          exact hj
        · rw [if_pos hm,if_neg (by omega)] at hj
          rw [if_neg (by omega),if_pos hd,show 2 * (i / 2) = i - 1 by omega]
          exact hj
      · rw [if_neg e,if_neg (by omega),if_neg (by omega)]
        exact hnode j hjl
    · intro m hm x hx
      rcases List.mem_cons.1 hm with rfl | hm
      · rcases List.mem_or_eq_of_mem_set hx with hx | rfl
        · exact hu l List.mem_cons_self x hx
        · exact hh
      · exact t2 m hm x hx
    · show (l.set i h).getD (sib i) 0 :: pathT (l'.set (i / 2) h' :: rest') (i / 2) = l.getD (sib i) 0 :: pathT (l' :: rest) (i / 2)
      rw [t6,getDi_set _ _ _ _ hi,if_neg (by unfold sib; split <;> omega)]
structure HT (o:Or) (d:Nat) (ls:List ByteArray) (root:Int) (tr:List (List Int)):Prop where
  tree:TreeT o.tab tr
  allU:AllU tr
  len:tr.length = d + 1
  hl:(tr.headD []).length = 2 ^ d
  lf:∀ i,i < 2 ^ d→o.tab (leafT (ls.getD i ByteArray.empty)) = some ((tr.headD []).getD i 0)
  rt:rootT tr = root
def HasTree (o:Or) (d:Nat) (ls:List ByteArray) (root:Int):Prop:=∃ tr,HT o d ls root tr
theorem HT.ext {o o':Or} {d:Nat} {ls:List ByteArray} {root:Int} {tr:List (List Int)} (h:HT o d ls root tr) (x:X o o'):HT o' d ls root tr :=
  ⟨x.ext.tree h.tree,h.allU,h.len,h.hl,fun i hi=>x.ext.per _ _ (h.lf i hi),h.rt⟩
theorem HasTree.ext {o o':Or} {d:Nat} {ls:List ByteArray} {root:Int} (h:HasTree o d ls root) (x:X o o'):HasTree o' d ls root:=by
  obtain ⟨tr,h⟩:=h
  exact ⟨tr,h.ext x⟩
theorem build_HT {o:Or} {d:Nat} {ls:List ByteArray} (w:Wf o) (h8:d≤8) (hd:o.drawn≤3000000000000000000):HT (buildS d ls o).2 d ls (rootT (buildS d ls o).1) (buildS d ls o).1:=by
  obtain ⟨w3,x3,d3,t3,u3,len3,hl3,lf3⟩:=build_wf (ls:=ls) w h8 hd
  exact ⟨t3,u3,len3,hl3,lf3,rfl⟩
theorem root_U:∀ {tr:List (List Int)},AllU tr→U (rootT tr)
  | [],_=>⟨by decide,by decide⟩
  | [l],h=>U_getD (h l List.mem_cons_self) 0
  | l :: l' :: r,h=>root_U (tr:=l' :: r) (fun m hm=>h m (List.mem_cons_of_mem _ hm))
theorem HasTree.U {o:Or} {d:Nat} {ls:List ByteArray} {root:Int} (h:HasTree o d ls root):Mk.U root:=by
  obtain ⟨tr,h⟩:=h
  rw [← h.rt]
  exact root_U h.allU
theorem path_len:∀ (t:List (List Int)) (j:Nat),(pathT t j).length = t.length - 1
  | [],j=>rfl
  | [l],j=>rfl
  | l :: l' :: r,j=>by
    have:=path_len (l' :: r) (j / 2)
    simp only [pathT,List.length_cons] at this ⊢
    omega
theorem path_U:∀ {t:List (List Int)},AllU t→∀ (j:Nat),∀ x∈pathT t j,Mk.U x
  | [],h,j,x,hx=>by cases hx
  | [l],h,j,x,hx=>by cases hx
  | l :: l' :: r,h,j,x,hx=>by
    simp only [pathT,List.mem_cons] at hx
    rcases hx with rfl | hx
    · exact U_getD (h l List.mem_cons_self) _
    · exact path_U (t:=l' :: r) (fun m hm=>h m (List.mem_cons_of_mem _ hm)) _ x hx
theorem HT.same {o:Or} {d:Nat} {ls ms:List ByteArray} {a b:Int} {ta tb:List (List Int)} (w:Wf o) (hb:o.bad = false) (h:HT o d ls a ta) (k:HT o d ms b tb):a = b↔∀ i,i < 2 ^ d→ls.getD i ByteArray.empty = ms.getD i ByteArray.empty:=by
  have:=roots_eq (tab_inj w hb) ta tb h.tree k.tree h.allU k.allU (h.len.trans k.len.symm)
  rw [h.rt,k.rt] at this
  rw [this]
  constructor
  · intro e i hi
    have h1:=h.lf i hi
    have h2:=k.lf i hi
    rw [e] at h1
    exact leafT_inj (tab_inj w hb _ _ _ h1 h2)
  · intro e
    refine list_ext0 (h.hl.trans k.hl.symm) fun i hi=>?_
    have h1:=h.lf i (by rw [← h.hl]; exact hi)
    have h2:=k.lf i (by rw [← h.hl]; exact hi)
    rw [e i (by rw [← h.hl]; exact hi)] at h1
    exact Option.some.inj (h1.symm.trans h2)
def climbF (o:Or) (s:ByteArray) (i:Nat) (p:List Int):Int×Or:=climbS (o.hash (leafT s)).1 i p (o.hash (leafT s)).2
theorem climbF_G {o:Or} (g:G o) {s:ByteArray} {i:Nat} {p:List Int} (hp:p.length≤8) (hd:o.drawn≤4000000000000000000) :
    G (climbF o s i p).2∧X o (climbF o s i p).2∧(climbF o s i p).2.drawn≤o.drawn + 9∧U (climbF o s i p).1:=by
  obtain ⟨g1,x1⟩:=hash_G g (leafT s) (by omega)
  obtain ⟨w4,x4,d4,f4⟩:=hash_wf g.wf (leafT s) (by omega)
  obtain ⟨w5,x5,d5,u5,f5⟩:=climb_wf p (o.hash (leafT s)).1 i w4 (by unfold Lim; omega) (w4.val _ _ f4).1
  obtain ⟨g2,x2⟩:=climb_G p (o.hash (leafT s)).1 i g1 (by omega)
  refine ⟨g2,x1.trans x2,?_,u5⟩
  show (climbS (o.hash (leafT s)).1 i p (o.hash (leafT s)).2).2.drawn≤_
  omega
theorem climbF_root {o:Or} (g:G o) {d i:Nat} {ls:List ByteArray} {root:Int} {tr:List (List Int)} {s:ByteArray} {p:List Int} (h:HT o d ls root tr) (hp:p.length = d) (h8:d≤8) (hu:∀ x,x∈p→U x) (hi:i < 2 ^ d) (hd:o.drawn≤4000000000000000000)
    (hb:(climbF o s i p).2.bad = false):(climbF o s i p).1 = root↔s = ls.getD i ByteArray.empty∧p = pathT tr i:=by
  obtain ⟨w4,x4,d4,f4⟩:=hash_wf g.wf (leafT s) (by omega)
  obtain ⟨w5,x5,d5,u5,f5⟩:=climb_wf p (o.hash (leafT s)).1 i w4 (by unfold Lim; omega) (w4.val _ _ f4).1
  have hb5:(climbS (o.hash (leafT s)).1 i p (o.hash (leafT s)).2).2.bad = false:=hb
  have ht5:=x5.tree (x4.tree h.tree)
  have h1:=climb_root (tab_inj w5 hb5) tr p (o.hash (leafT s)).1 i (climbS (o.hash (leafT s)).1 i p (o.hash (leafT s)).2).1 ht5 h.allU (w4.val _ _ f4).1 hu (tab_U w5) (by rw [h.hl]; exact hi) (by rw [hp,h.len]) f5
  rw [h.rt] at h1
  have hT1:(climbS (o.hash (leafT s)).1 i p (o.hash (leafT s)).2).2.tab (leafT s) = some (o.hash (leafT s)).1:=x5.per _ _ f4
  have hT2:=x5.per _ _ (x4.per _ _ (h.lf i hi))
  refine h1.trans ?_
  constructor
  · rintro ⟨e1,e2⟩
    exact ⟨leafT_inj (tab_inj w5 hb5 _ _ _ (hT1.trans (congrArg some e1)) hT2),e2⟩
  · rintro ⟨e1,e2⟩
    refine ⟨?_,e2⟩
    rw [← e1] at hT2
    exact Option.some.inj (hT1.symm.trans hT2)
theorem climbF_set {o:Or} (g:G o) {d i:Nat} {ls:List ByteArray} {root:Int} {tr:List (List Int)} {s:ByteArray} (h:HT o d ls root tr) (h8:d≤8) (hls:ls.length = 2 ^ d) (hi:i < 2 ^ d) (hd:o.drawn≤4000000000000000000) :
    ∃ tr',HT (climbF o s i (pathT tr i)).2 d (ls.set i s) (climbF o s i (pathT tr i)).1 tr'∧pathT tr' i = pathT tr i:=by
  have hpl:(pathT tr i).length = d:=by rw [path_len,h.len]; rfl
  obtain ⟨w4,x4,d4,f4⟩:=hash_wf g.wf (leafT s) (by omega)
  obtain ⟨w5,x5,d5,u5,f5⟩:=climb_wf (pathT tr i) (o.hash (leafT s)).1 i w4 (by unfold Lim; omega) (w4.val _ _ f4).1
  have ht5:=x5.tree (x4.tree h.tree)
  obtain ⟨tr',t1,t2,t3,t4,t5,t6⟩:=set_tree tr (o.hash (leafT s)).1 i _ ht5 h.allU (w4.val _ _ f4).1 (tab_U w5) (by rw [h.hl]; exact hi) f5
  refine ⟨tr',⟨t1,t2,t3.trans h.len,by rw [t4,List.length_set]; exact h.hl,fun j hj=>?_,t5⟩,t6⟩
  rw [t4,getDi_set _ _ _ _ (by rw [h.hl]; exact hi),getDs_set _ _ _ _ (by rw [hls]; exact hi)]
  by_cases e:j = i
  · rw [if_pos e,if_pos e]
    exact x5.per _ _ f4
  · rw [if_neg e,if_neg e]
    exact x5.per _ _ (x4.per _ _ (h.lf j hj))
end Go.Proofs.Ytljfdfghagiblaa.S2.Mk
