/- What a read tells is what was written last,whatever storage shows: in plain words. -/
import Derived.Test.YtljfdfghagiblaaPGForged
import Derived.Test.YtljfdfghagiblaaGLGateTrue
set_option linter.unusedVariables false
set_option linter.unusedSimpArgs false
namespace Go.Proofs.Ytljfdfghagiblaa.S2.Mk
open Go Go.Proofs.Ytljfdfghagiblaa.S2
structure TT (d:Nat) (j:Nat) (o:Or) (texts:List ByteArray) (p:Bool) (s:Int) (tx lf:ByteArray) (n:Int) (t:TrT) (cur:List ByteArray):Prop where
  n:n≤(j:Int) + 1
  v:t.2.1≤j
  cl:cur.length = 2 ^ d
  ht:HasTree o d cur t.1
  lfs:∀ i:Nat,i < 2 ^ d→LfOk o (i:Int) (cur.getD i ByteArray.empty) (texts.getD i ByteArray.empty)
  pn:p = true↔t.2.2.1 = 1
  pe:p = true→t.2.2.2.1 = s∧HasTree o d (cur.set s.toNat lf) t.2.2.2.2.1∧LfOk o s lf tx
structure TI (d:Nat) (j:Nat) (o:Or) (S now:List ByteArray) (old:List (List ByteArray)) (p:Bool) (s:Int) (tx lf:ByteArray) (texts:List ByteArray):Prop where
  g:G o
  dr:o.drawn≤2000 * (j:Int) + 1000
  st:∃ n t cur,StG 256 S n t∧TT d j o texts p s tx lf n t cur
  nw:Lvs d now
  od:∀ l∈old,Lvs d l
  ol:old.length≤j
  tl:texts.length = 2 ^ d
  s0:0≤s
  s1:s < 2 ^ d
  lz:lf.size≤40
theorem TT.up {d j:Nat} {o o':Or} {texts:List ByteArray} {p:Bool} {s:Int} {tx lf:ByteArray} {n:Int} {t:TrT} {cur:List ByteArray} (h:TT d j o texts p s tx lf n t cur) (g:G o) (x:X o o'):TT d (j + 1) o' texts p s tx lf n t cur :=
  ⟨by have:=h.n; omega,by have:=h.v; omega,h.cl,h.ht.ext x,fun i hi=>(h.lfs i hi).ext g x,h.pn,fun hp=>⟨(h.pe hp).1,(h.pe hp).2.1.ext x,(h.pe hp).2.2.ext g x⟩⟩
theorem TI.same {d j:Nat} {o o':Or} {S now:List ByteArray} {old:List (List ByteArray)} {p:Bool} {s:Int} {tx lf:ByteArray} {texts:List ByteArray} (h:TI d j o S now old p s tx lf texts) (g:G o') (x:X o o') (nb:o'.bad = false) (dr:o'.drawn≤o.drawn + 1500):TI d (j + 1) o' S now old p s tx lf texts:=by
  obtain ⟨n,t,cur,st,tt⟩:=h.st
  exact ⟨g,by have:=h.dr; omega,⟨n,t,cur,st,tt.up h.g x⟩,h.nw,h.od,by have:=h.ol; omega,h.tl,h.s0,h.s1,h.lz⟩
def Step (d j:Nat) (x:ActG) (o:Or) (S now:List ByteArray) (old:List (List ByteArray)) (p:Bool) (s:Int) (tx lf:ByteArray) (texts:List ByteArray):Prop :=
  ∃ b o' S' now' old' p' s' tx' lf' texts',F_k36 (actT x,()) (acI (d:Int) o S now old (mdl p s tx lf) texts) = some (b,acO (d:Int) o' S' now' old' (mdl p' s' tx' lf') texts')∧(o'.bad = false→b = true∧TI d (j + 1) o' S' now' old' p' s' tx' lf' texts')
section
variable {d j:Nat} {x:ActG} {o:Or} {S now:List ByteArray} {old:List (List ByteArray)} {p:Bool} {s:Int} {tx lf:ByteArray} {texts:List ByteArray}
theorem c_ne {a b:Int} (h:a≠b):(a == b) = false:=beq_false_of_ne h
theorem step_else (hi:TI d j o S now old p s tx lf texts) (h0:x.1≠0) (h1:x.1≠1) (h2:x.1≠2) (h3:x.1≠3) (h4:x.1≠4) (h5:x.1≠5) (h6:x.1≠6):Step d j x o S now old p s tx lf texts:=by
  refine ⟨true,o,S,now,old,p,s,tx,lf,texts,?_,fun hb=>⟨rfl,hi.same hi.g (X.refl o) hb (by omega)⟩⟩
  unfold F_k36 tree_k36
  refine (c_f (c_ne h0)).trans ?_
  refine (c_f (c_ne h1)).trans ?_
  refine (c_f (c_ne h2)).trans ?_
  refine (c_f (c_ne h3)).trans ?_
  refine (c_f (c_ne h4)).trans ?_
  refine (c_f (c_ne h5)).trans ?_
  refine (c_f (c_ne h6)).trans ?_
  rfl
theorem step6 (hi:TI d j o S now old p s tx lf texts) (h:x.1 = 6):Step d j x o S now old p s tx lf texts:=by
  obtain ⟨n,t,cur,st,tt⟩:=hi.st
  have hC:=e_Crash (keep:=x.2.2.2.2.2.2.2.2) (st_D st)
  refine ⟨true,o,S,now,old,p,s,tx,lf,texts,?_,fun hb=>⟨rfl,hi.same hi.g (X.refl o) hb (by omega)⟩⟩
  unfold F_k36 tree_k36
  refine (c_f (c_ne (by show x.1≠0; omega))).trans ?_
  refine (c_f (c_ne (by show x.1≠1; omega))).trans ?_
  refine (c_f (c_ne (by show x.1≠2; omega))).trans ?_
  refine (c_f (c_ne (by show x.1≠3; omega))).trans ?_
  refine (c_f (c_ne (by show x.1≠4; omega))).trans ?_
  refine (c_f (c_ne (by show x.1≠5; omega))).trans ?_
  refine (c_t (beq_iff_eq.2 h)).trans ?_
  refine bindS hC ?_
  rfl
theorem step5 (h4:d≤4) (hj:j < 40) (hi:TI d j o S now old p s tx lf texts) (h:x.1 = 5):Step d j x o S now old p s tx lf texts:=by
  obtain ⟨n,t,cur,st,tt⟩:=hi.st
  obtain ⟨p1,p2⟩:=pow_small h4
  obtain ⟨ws,wl⟩:=wrap_sec h4 hi.s0 hi.s1
  have hol:=hi.ol
  have hPut:=e_put (d:=(d:Int)) (now:=now) (old:=old) (s:=s) (leaf:=lf) hi.s0 (by rw [hi.nw.len]; omega) (by rw [hi.nw.len]; omega) (by omega)
  cases hp:p with
  | false =>
    refine ⟨true,o,S,now,old,false,s,tx,lf,texts,?_,fun hb=>⟨rfl,by rw [← hp]; exact hi.same hi.g (X.refl o) hb (by omega)⟩⟩
    unfold F_k36 tree_k36
    refine (c_f (c_ne (by show x.1≠0; omega))).trans ?_
    refine (c_f (c_ne (by show x.1≠1; omega))).trans ?_
    refine (c_f (c_ne (by show x.1≠2; omega))).trans ?_
    refine (c_f (c_ne (by show x.1≠3; omega))).trans ?_
    refine (c_f (c_ne (by show x.1≠4; omega))).trans ?_
    refine (c_t (beq_iff_eq.2 h)).trans ?_
    rfl
  | true =>
    refine ⟨true,o,S,now.set s.toNat lf,old ++ [now],true,s,tx,lf,texts,?_,fun hb=>⟨rfl,hi.g,by have:=hi.dr; omega,⟨n,t,cur,st,by rw [← hp]; exact tt.up hi.g (X.refl o)⟩,hi.nw.set _ (by have:=hi.lz; omega),?_,by simp; omega,hi.tl,hi.s0,hi.s1,hi.lz⟩⟩
    · unfold F_k36 tree_k36
      refine (c_f (c_ne (by show x.1≠0; omega))).trans ?_
      refine (c_f (c_ne (by show x.1≠1; omega))).trans ?_
      refine (c_f (c_ne (by show x.1≠2; omega))).trans ?_
      refine (c_f (c_ne (by show x.1≠3; omega))).trans ?_
      refine (c_f (c_ne (by show x.1≠4; omega))).trans ?_
      refine (c_t (beq_iff_eq.2 h)).trans ?_
      refine (c_t rfl).trans ?_
      refine bindS hPut ?_
      rfl
    · intro l hl
      rcases List.mem_append.1 hl with hl | hl
      · exact hi.od l hl
      · rw [List.mem_singleton] at hl; rw [hl]; exact hi.nw
theorem TT.next {n:Int} {t:TrT} {cur:List ByteArray} {o':Or} (h4:d≤4) (h:TT d j o texts true s tx lf n t cur) (g:G o) (x:X o o') (htl:texts.length = 2 ^ d) (h0:0≤s) (h1:s < 2 ^ d):TT d (j + 1) o' (texts.set s.toNat tx) false s tx lf (n + 1) (nextT t) (cur.set s.toNat lf):=by
  obtain ⟨ws,wl⟩:=wrap_sec h4 h0 h1
  obtain ⟨q1,q2,q3⟩:=h.pe rfl
  refine ⟨by have:=h.n; omega,by show t.2.1 + 1≤_; have:=h.v; omega,by rw [List.length_set]; exact h.cl,q2.ext x,fun i hi=>?_,⟨(fun q=>by cases q),fun q=>absurd (show (0:Int) = 1 from q) (by decide)⟩,fun q=>by cases q⟩
  rw [getDs_set _ _ _ _ (by rw [h.cl]; exact wl),getDs_set _ _ _ _ (by rw [htl]; exact wl)]
  by_cases e:i = s.toNat
  · rw [if_pos e,if_pos e]
    have:(i:Int) = s:=by omega
    rw [this]
    exact q3.ext g x
  · rw [if_neg e,if_neg e]
    exact (h.lfs i hi).ext g x
theorem TT.back {n:Int} {t:TrT} {cur:List ByteArray} {o':Or} (h:TT d j o texts true s tx lf n t cur) (g:G o) (x:X o o'):TT d (j + 1) o' texts false s tx lf (n + 1) (backT t) cur :=
  ⟨by have:=h.n; omega,by show t.2.1≤_; have:=h.v; omega,h.cl,h.ht.ext x,fun i hi=>(h.lfs i hi).ext g x,⟨(fun q=>by cases q),fun q=>absurd (show (0:Int) = 1 from q) (by decide)⟩,fun q=>by cases q⟩
theorem step3 (h4:d≤4) (hj:j < 40) (hi:TI d j o S now old p s tx lf texts) (h:x.1 = 3):Step d j x o S now old p s tx lf texts:=by
  obtain ⟨n,t,cur,st,tt⟩:=hi.st
  obtain ⟨p1,p2⟩:=pow_small h4
  have hc:(2:Int) ^ d = ((2 ^ d:Nat):Int):=by simp
  have hol:=hi.ol
  have hs1:=hi.s1
  have hDn:=e_Done o (k:=3) (v:=5) (d:=(d:Int)) (st_D st)
  have hn:=tt.n
  have hv:=tt.v
  rcases done_sem st (by omega) (by omega) with ⟨q1,q2,q3⟩ | ⟨q1,q2,q3⟩
  · have hp : p = false := by
      cases hp:p with
      | false=>rfl
      | true=>have:=tt.pn.1 hp; omega
    refine ⟨true,o,S,now,old,p,s,tx,lf,texts,?_,fun hb=>⟨rfl,hi.same hi.g (X.refl o) hb (by omega)⟩⟩
    unfold F_k36 tree_k36
    refine (c_f (c_ne (by show x.1≠0; omega))).trans ?_
    refine (c_f (c_ne (by show x.1≠1; omega))).trans ?_
    refine (c_f (c_ne (by show x.1≠2; omega))).trans ?_
    refine (c_t (beq_iff_eq.2 h)).trans ?_
    refine bindS hDn ?_
    refine (c_t (bne_iff_ne.2 q2)).trans ?_
    rw [q3,hp]
    rfl
  · have hp:p = true:=tt.pn.2 q1
    subst hp
    have hSt:=e_settles (p:=true) (b:=true) (s:=s) (d:=(d:Int)) (t:=tx) (l:=lf) (now:=now) (texts:=texts) (old:=old) (fun _=>⟨hi.s0,by rw [hi.nw.len]; omega,by rw [hi.tl]; omega⟩) (by rw [hi.nw.len]; omega) (by omega) (by rw [hi.tl]; omega)
    rw [if_neg (by decide),if_pos rfl] at hSt
    refine ⟨true,o,doneS S,now.set s.toNat lf,old ++ [now],false,s,tx,lf,texts.set s.toNat tx,?_,fun hb=>⟨rfl,hi.g,by have:=hi.dr; omega,⟨n + 1,nextT t,cur.set s.toNat lf,q3,tt.next h4 hi.g (X.refl o) hi.tl hi.s0 hi.s1⟩,hi.nw.set _ (by have:=hi.lz; omega),?_,by simp; omega,by rw [List.length_set]; exact hi.tl,hi.s0,hi.s1,hi.lz⟩⟩
    · unfold F_k36 tree_k36
      refine (c_f (c_ne (by show x.1≠0; omega))).trans ?_
      refine (c_f (c_ne (by show x.1≠1; omega))).trans ?_
      refine (c_f (c_ne (by show x.1≠2; omega))).trans ?_
      refine (c_t (beq_iff_eq.2 h)).trans ?_
      refine bindS hDn ?_
      refine (c_f (by rw [q2]; rfl)).trans ?_
      refine bindS hSt ?_
      rfl
    · intro l hl
      rcases List.mem_append.1 hl with hl | hl
      · exact hi.od l hl
      · rw [List.mem_singleton] at hl; rw [hl]; exact hi.nw
theorem step0 (h4:d≤4) (hj:j < 40) (hi:TI d j o S now old p s tx lf texts) (hx:ActOkG x) (h:x.1 = 0):Step d j x o S now old p s tx lf texts:=by
  obtain ⟨n,t,cur,st,tt⟩:=hi.st
  obtain ⟨p1,p2⟩:=pow_small h4
  have hc:(2:Int) ^ d = ((2 ^ d:Nat):Int):=by simp
  have hol:=hi.ol
  have hdr:=hi.dr
  have hu5:u64I 5:=⟨by decide,by decide⟩
  obtain ⟨leaf,path,o1,hsh,hw,g1,x1,d1,_⟩:=e_show (now:=now) (old:=old) hi.g (by omega) h4 hi.nw hi.od (by omega) hx
  have hR:=e_Read (k:=3) (v:=5) (d:=(d:Int)) (sector:=x.2.2.2.1) (S:=S) g1 (by omega) hw (by omega) (by omega) (st_D st) hu5 hx.s
  obtain ⟨g2,x2,d2,e2⟩:=read_G g1 (by omega) 3 5 (d:Int) S x.2.2.2.1 leaf path
  have hsem:=fun hb hz=>read_sem (text:=texts.getD x.2.2.2.1.toNat ByteArray.empty) g1 (by omega) h4 st (tt.ht.ext x1) hx.s.1 hw (fun i hi2 he=>by
    have:=(tt.lfs i hi2).ext hi.g x1
    rw [he] at this
    have e3:x.2.2.2.1.toNat = i:=by omega
    rw [e3]
    exact this) hb hz
  generalize readF 3 5 (d:Int) o1 S x.2.2.2.1 leaf path = r at *
  have hsame:r.2.bad = false→TI d (j + 1) r.2 S now old p s tx lf texts:=fun hb=>hi.same g2 (x1.trans x2) hb (by omega)
  by_cases hz:r.1.2 = 0
  · by_cases hp:p = true
    · refine ⟨false,r.2,S,now,old,p,s,tx,lf,texts,?_,fun hb=>?_⟩
      · unfold F_k36 tree_k36
        refine (c_t (beq_iff_eq.2 h)).trans ?_
        refine bindS hsh ?_
        refine bindS hR ?_
        refine (c_f (by rw [hz]; rfl)).trans ?_
        refine (c_t (by rw [hz]; rfl)).trans ?_
        refine (c_f (by show (!p) = false; rw [hp]; rfl)).trans ?_
        rfl
      · exact ((hsem hb hz).1 (tt.pn.1 hp)).elim
    · have hp : p = false := by
        cases p with
        | false=>rfl
        | true=>exact (hp rfl).elim
      have hw64:IntKind.u64.wrap (texts.length:Int) = (texts.length:Int):=u64id (by omega) (by rw [hi.tl]; omega)
      by_cases hlt:x.2.2.2.1 < (texts.length:Int)
      · have hs0:=hx.s.1
        have hwi:IntKind.i64.wrap x.2.2.2.1 = x.2.2.2.1:=i64id (by omega) (by rw [hi.tl] at hlt; omega)
        refine ⟨r.1.1.toList == (texts.getD x.2.2.2.1.toNat ByteArray.empty).toList,r.2,S,now,old,p,s,tx,lf,texts,?_,fun hb=>⟨?_,hsame hb⟩⟩
        · unfold F_k36 tree_k36
          refine (c_t (beq_iff_eq.2 h)).trans ?_
          refine bindS hsh ?_
          refine bindS hR ?_
          refine (c_f (by rw [hz]; rfl)).trans ?_
          refine (c_t (by rw [hz]; rfl)).trans ?_
          refine (c_t (by show (!p) = true; rw [hp]; rfl)).trans ?_
          refine (cd_t (by show x.2.2.2.1 < IntKind.u64.wrap (texts.length:Int); rw [hw64]; exact hlt)).trans ?_
          refine (cd_t (by show 0≤IntKind.i64.wrap x.2.2.2.1; rw [hwi]; exact hs0)).trans ?_
          refine (cd_t (by show IntKind.i64.wrap x.2.2.2.1 < (texts.length:Int); rw [hwi]; exact hlt)).trans ?_
          show some (r.1.1.toList == (texts.getD (0 + (IntKind.i64.wrap x.2.2.2.1).toNat) ByteArray.empty).toList,_) = _
          rw [hwi,Nat.zero_add]
          rfl
        · rw [(hsem hb hz).2.2]
          exact bytes_self _
      · refine ⟨false,r.2,S,now,old,p,s,tx,lf,texts,?_,fun hb=>?_⟩
        · unfold F_k36 tree_k36
          refine (c_t (beq_iff_eq.2 h)).trans ?_
          refine bindS hsh ?_
          refine bindS hR ?_
          refine (c_f (by rw [hz]; rfl)).trans ?_
          refine (c_t (by rw [hz]; rfl)).trans ?_
          refine (c_t (by show (!p) = true; rw [hp]; rfl)).trans ?_
          refine (cd_f (by show ¬ x.2.2.2.1 < IntKind.u64.wrap (texts.length:Int); rw [hw64]; exact hlt)).trans ?_
          rfl
        · have:=(hsem hb hz).2.1
          rw [hi.tl] at hlt
          omega
  · refine ⟨true,r.2,S,now,old,p,s,tx,lf,texts,?_,fun hb=>⟨rfl,hsame hb⟩⟩
    unfold F_k36 tree_k36
    refine (c_t (beq_iff_eq.2 h)).trans ?_
    refine bindS hsh ?_
    refine bindS hR ?_
    refine (c_t (bne_iff_ne.2 hz)).trans ?_
    refine (c_t (by rw [e2 hz]; exact bytes_self _)).trans ?_
    rfl
theorem chg_tt {o1:Or} {n:Int} {t:TrT} {cur:List ByteArray} {sector:Int} {leaf txt:ByteArray} {path:List Int} {mk:Or→Int→ByteArray×Or} {r:(ByteArray×Int)×Or×List ByteArray} (h4:d≤4) (tt:TT d j o texts p s tx lf n t cur) (g:G o) (x1:X o r.2.1) (x0:X o o1) (hs:u64I sector)
    (c:Chg o1 d S n t sector leaf path mk r) (hlf:r.2.1.bad = false→LfOk r.2.1 sector r.1.1 txt) (hb:r.2.1.bad = false) :
    ∃ n' t' cur',StG 256 r.2.2 n' t'∧TT d (j + 1) r.2.1 texts true sector txt r.1.1 n' t' cur':=by
  obtain ⟨next,s1,s2⟩:=c.st
  obtain ⟨tr,hT⟩:=tt.ht
  obtain ⟨e1,e2,tr',e3,e4⟩:=s2 hb cur tr (hT.ext x0) tt.cl
  exact ⟨n + 1,_,cur,s1,by have:=tt.n; omega,by show t.2.1≤_; have:=tt.v; omega,tt.cl,tt.ht.ext x1,fun i hi=>(tt.lfs i hi).ext g x1,⟨fun _=>rfl,fun _=>rfl⟩,fun _=>⟨rfl,⟨tr',e3⟩,hlf hb⟩⟩
theorem step1 (h4:d≤4) (hj:j < 40) (hi:TI d j o S now old p s tx lf texts) (hx:ActOkG x) (h:x.1 = 1):Step d j x o S now old p s tx lf texts:=by
  obtain ⟨n,t,cur,st,tt⟩:=hi.st
  obtain ⟨p1,p2⟩:=pow_small h4
  have hc:(2:Int) ^ d = ((2 ^ d:Nat):Int):=by simp
  have hol:=hi.ol
  have hdr:=hi.dr
  have hn:=tt.n
  have hu5:u64I 5:=⟨by decide,by decide⟩
  obtain ⟨leaf,path,o1,hsh,hw,g1,x1,d1,_⟩:=e_show (now:=now) (old:=old) hi.g (by omega) h4 hi.nw hi.od (by omega) hx
  have hR:=e_Write (k:=3) (v:=5) (d:=(d:Int)) (sector:=x.2.2.2.1) (epoch:=x.2.2.2.2.1) (p:=x.2.2.2.2.2.1) (S:=S) g1 (by omega) hw (by omega) (by omega) (st_D st) hu5 hx.s hx.h
  obtain ⟨gl,xl,dl⟩:=leads_G g1 (d:Int) x.2.2.2.1 leaf path (by omega)
  have hm:=seal_mk gl (by omega) 3 5 x.2.2.2.1 x.2.2.2.2.1 x.2.2.2.2.2.1 (verN t) (u64_wrap _) hx.h
  -- what comes of it
  have key:G (writeF 3 5 (d:Int) o1 S x.2.2.2.1 x.2.2.2.2.1 x.2.2.2.2.2.1 leaf path).2.1∧X o1 (writeF 3 5 (d:Int) o1 S x.2.2.2.1 x.2.2.2.2.1 x.2.2.2.2.2.1 leaf path).2.1∧(writeF 3 5 (d:Int) o1 S x.2.2.2.1 x.2.2.2.2.1 x.2.2.2.2.2.1 leaf path).2.1.drawn≤o1.drawn + 20 ∧
      (((writeF 3 5 (d:Int) o1 S x.2.2.2.1 x.2.2.2.2.1 x.2.2.2.2.2.1 leaf path).1.2≠0∧(writeF 3 5 (d:Int) o1 S x.2.2.2.1 x.2.2.2.2.1 x.2.2.2.2.2.1 leaf path).1.1 = ByteArray.empty∧(writeF 3 5 (d:Int) o1 S x.2.2.2.1 x.2.2.2.2.1 x.2.2.2.2.2.1 leaf path).2.2 = S) ∨
        ((writeF 3 5 (d:Int) o1 S x.2.2.2.1 x.2.2.2.2.1 x.2.2.2.2.2.1 leaf path).1.2 = 0∧Chg o1 d S n t x.2.2.2.1 leaf path (sealL 3 5 x.2.2.2.1 x.2.2.2.2.1 x.2.2.2.2.2.1) (writeF 3 5 (d:Int) o1 S x.2.2.2.1 x.2.2.2.2.1 x.2.2.2.2.2.1 leaf path))):=by
    unfold writeF
    split
    · exact ⟨g1,X.refl o1,by show o1.drawn≤o1.drawn + 20; omega,.inl ⟨by show (231:Int)≠0; decide,rfl,rfl⟩⟩
    · obtain ⟨c1,c2,c3,c4⟩:=change_sem g1 (by omega) h4 st (by omega) hx.s hw hm
      exact ⟨c1,c2,c3,c4.imp (fun q=>⟨q.1,q.2.1,q.2.2.1⟩) id⟩
  generalize writeF 3 5 (d:Int) o1 S x.2.2.2.1 x.2.2.2.2.1 x.2.2.2.2.2.1 leaf path = r at *
  obtain ⟨g2,x2,d2,hk⟩:=key
  rcases hk with ⟨k1,k2,k3⟩ | ⟨k1,k2⟩
  · refine ⟨true,r.2.1,S,now,old,p,s,tx,lf,texts,?_,fun hb=>⟨rfl,hi.same g2 (x1.trans x2) hb (by omega)⟩⟩
    unfold F_k36 tree_k36
    refine (c_f (c_ne (by show x.1≠0; omega))).trans ?_
    refine (c_t (beq_iff_eq.2 h)).trans ?_
    refine bindS hsh ?_
    refine bindS hR ?_
    refine (c_t (bne_iff_ne.2 k1)).trans ?_
    show some (r.1.1.toList == ByteArray.empty.toList,_) = _
    rw [k2,show (ByteArray.empty.toList == ByteArray.empty.toList) = true from bytes_self _,k3]
    rfl
  · have hp : p = false := by
      cases hp:p with
      | false=>rfl
      | true=>exact (k2.np (tt.pn.1 hp)).elim
    have hsl:=k2.sl
    have hIn:=e_intends (p:=p) (s:=x.2.2.2.1) (s0:=s) (t:=x.2.2.2.2.2.1) (l:=r.1.1) (t0:=tx) (l0:=lf) (texts:=texts) (by rw [hi.tl]; omega)
    rw [if_pos ⟨hp,by rw [hi.tl]; omega⟩] at hIn
    have hlfb:r.2.1.bad = false→LfOk r.2.1 x.2.2.2.1 r.1.1 x.2.2.2.2.2.1:=by
      intro hb
      obtain ⟨l1,_⟩:=seal_lf gl (by omega) (sector:=x.2.2.2.1) (p:=x.2.2.2.2.2.1) (u64_wrap (t.2.1 + 1)) hx.h (k2.xm.ext.bad hb)
      rw [k2.tx]
      exact l1.ext hm.g k2.xm
    refine ⟨true,r.2.1,r.2.2,now,old,true,x.2.2.2.1,x.2.2.2.2.2.1,r.1.1,texts,?_,fun hb=>⟨rfl,g2,by omega,chg_tt h4 tt hi.g (x1.trans x2) x1 hx.s k2 hlfb hb,hi.nw,hi.od,by omega,hi.tl,hx.s.1,hsl,by rw [k2.tx]; exact hm.z⟩⟩
    unfold F_k36 tree_k36
    refine (c_f (c_ne (by show x.1≠0; omega))).trans ?_
    refine (c_t (beq_iff_eq.2 h)).trans ?_
    refine bindS hsh ?_
    refine bindS hR ?_
    refine (c_f (by rw [k1]; rfl)).trans ?_
    refine bindS hIn ?_
    rfl
theorem step2 (h4:d≤4) (hj:j < 40) (hi:TI d j o S now old p s tx lf texts) (hx:ActOkG x) (h:x.1 = 2):Step d j x o S now old p s tx lf texts:=by
  obtain ⟨n,t,cur,st,tt⟩:=hi.st
  obtain ⟨p1,p2⟩:=pow_small h4
  have hc:(2:Int) ^ d = ((2 ^ d:Nat):Int):=by simp
  have hol:=hi.ol
  have hdr:=hi.dr
  have hn:=tt.n
  obtain ⟨leaf,path,o1,hsh,hw,g1,x1,d1,_⟩:=e_show (now:=now) (old:=old) hi.g (by omega) h4 hi.nw hi.od (by omega) hx
  have hR:=e_Trim (k:=3) (v:=5) (d:=(d:Int)) (sector:=x.2.2.2.1) (S:=S) g1 (by omega) hw (by omega) (by omega) (st_D st) hx.s
  obtain ⟨gl,xl,dl⟩:=leads_G g1 (d:Int) x.2.2.2.1 leaf path (by omega)
  have hm:=trim_mk gl (verN t)
  obtain ⟨g2,x2,d2,hk⟩:=change_sem g1 (by omega) h4 st (by omega) hx.s hw hm
  have htf:trimF (d:Int) o1 S x.2.2.2.1 leaf path = changeF (d:Int) o1 S x.2.2.2.1 leaf path (fun o _=>(ByteArray.empty,o)):=rfl
  rw [htf] at hR
  generalize changeF (d:Int) o1 S x.2.2.2.1 leaf path (fun o _=>(ByteArray.empty,o)) = r at *
  rcases hk with ⟨k1,k2,k3,_⟩ | ⟨k1,k2⟩
  · refine ⟨true,r.2.1,S,now,old,p,s,tx,lf,texts,?_,fun hb=>⟨rfl,hi.same g2 (x1.trans x2) hb (by omega)⟩⟩
    unfold F_k36 tree_k36
    refine (c_f (c_ne (by show x.1≠0; omega))).trans ?_
    refine (c_f (c_ne (by show x.1≠1; omega))).trans ?_
    refine (c_t (beq_iff_eq.2 h)).trans ?_
    refine bindS hsh ?_
    refine bindS hR ?_
    refine (c_t (bne_iff_ne.2 k1)).trans ?_
    rw [k3]
    rfl
  · have hp : p = false := by
      cases hp:p with
      | false=>rfl
      | true=>exact (k2.np (tt.pn.1 hp)).elim
    have hsl:=k2.sl
    have hr1:r.1.1 = ByteArray.empty:=k2.tx
    have hIn:=e_intends (p:=p) (s:=x.2.2.2.1) (s0:=s) (t:=ByteArray.empty) (l:=ByteArray.empty) (t0:=tx) (l0:=lf) (texts:=texts) (by rw [hi.tl]; omega)
    rw [if_pos ⟨hp,by rw [hi.tl]; omega⟩] at hIn
    refine ⟨true,r.2.1,r.2.2,now,old,true,x.2.2.2.1,ByteArray.empty,ByteArray.empty,texts,?_,fun hb=>⟨rfl,g2,by omega,by
      rw [← hr1]
      rw [hr1]
      have:=chg_tt (txt:=ByteArray.empty) h4 tt hi.g (x1.trans x2) x1 hx.s k2 (fun _=>.inl ⟨hr1,rfl⟩) hb
      rw [hr1] at this
      exact this,hi.nw,hi.od,by omega,hi.tl,hx.s.1,hsl,Nat.zero_le _⟩⟩
    unfold F_k36 tree_k36
    refine (c_f (c_ne (by show x.1≠0; omega))).trans ?_
    refine (c_f (c_ne (by show x.1≠1; omega))).trans ?_
    refine (c_t (beq_iff_eq.2 h)).trans ?_
    refine bindS hsh ?_
    refine bindS hR ?_
    refine (c_f (by rw [k1]; rfl)).trans ?_
    refine bindS hIn ?_
    rfl
theorem step4 (h4:d≤4) (hj:j < 40) (hi:TI d j o S now old p s tx lf texts) (hx:ActOkG x) (h:x.1 = 4):Step d j x o S now old p s tx lf texts:=by
  obtain ⟨n,t,cur,st,tt⟩:=hi.st
  obtain ⟨p1,p2⟩:=pow_small h4
  have hc:(2:Int) ^ d = ((2 ^ d:Nat):Int):=by simp
  have hol:=hi.ol
  have hdr:=hi.dr
  have hn:=tt.n
  have hv:=tt.v
  have hs0:=hi.s0
  have hs1:=hi.s1
  obtain ⟨leaf,path,o1,hsh,hw,g1,x1,d1,_⟩:=e_show (now:=now) (old:=old) (x:=(x.1,x.2.1,x.2.2.1,s,x.2.2.2.2.1,x.2.2.2.2.2.1,x.2.2.2.2.2.2.1,x.2.2.2.2.2.2.2.1,x.2.2.2.2.2.2.2.2)) hi.g (by omega) h4 hi.nw hi.od (by omega) ⟨⟨hs0,by show s < _; omega⟩,hx.h,hx.shw,hx.pz⟩
  have hR:=e_Recover (k:=3) (v:=5) (d:=(d:Int)) (S:=S) g1 (by omega) hw (st_D st)
  obtain ⟨g2,x2,d2,_⟩:=rec_G g1 (by omega) (d:Int) S leaf path
  have hsem:=rec_sem (o:=o1) st (by omega) (by omega) (d:Int) leaf path
  generalize recF (d:Int) o1 S leaf path = r at *
  rcases hsem with ⟨k1,k2,k3,_⟩ | ⟨k1,k2,k3,k4,k5⟩
  · refine ⟨true,r.2.1,S,now,old,p,s,tx,lf,texts,?_,fun hb=>⟨rfl,hi.same g2 (x1.trans x2) hb (by omega)⟩⟩
    unfold F_k36 tree_k36
    refine (c_f (c_ne (by show x.1≠0; omega))).trans ?_
    refine (c_f (c_ne (by show x.1≠1; omega))).trans ?_
    refine (c_f (c_ne (by show x.1≠2; omega))).trans ?_
    refine (c_f (c_ne (by show x.1≠3; omega))).trans ?_
    refine (c_t (beq_iff_eq.2 h)).trans ?_
    refine bindS hsh ?_
    refine bindS hR ?_
    refine (c_t (bne_iff_ne.2 k1)).trans ?_
    rw [k2,k3]
    rfl
  · have hp:p = true:=tt.pn.2 k2
    subst hp
    have hSt:=e_settles (p:=true) (b:=r.1.1) (s:=s) (d:=(d:Int)) (t:=tx) (l:=lf) (now:=now) (texts:=texts) (old:=old) (fun _=>⟨hi.s0,by rw [hi.nw.len]; omega,by rw [hi.tl]; omega⟩) (by rw [hi.nw.len]; omega) (by omega) (by rw [hi.tl]; omega)
    rw [if_neg (by decide)] at hSt
    have hxx:=x1.trans x2
    rcases (Bool.eq_false_or_eq_true r.1.1) with hbb | hbb
    · rw [if_pos hbb] at hSt k5
      refine ⟨true,r.2.1,r.2.2,now.set s.toNat lf,old ++ [now],false,s,tx,lf,texts.set s.toNat tx,?_,fun hb=>⟨rfl,g2,by omega,⟨n + 1,nextT t,cur.set s.toNat lf,k5,tt.next h4 hi.g hxx hi.tl hi.s0 hi.s1⟩,hi.nw.set _ (by have:=hi.lz; omega),?_,by simp; omega,by rw [List.length_set]; exact hi.tl,hi.s0,hi.s1,hi.lz⟩⟩
      · unfold F_k36 tree_k36
        refine (c_f (c_ne (by show x.1≠0; omega))).trans ?_
        refine (c_f (c_ne (by show x.1≠1; omega))).trans ?_
        refine (c_f (c_ne (by show x.1≠2; omega))).trans ?_
        refine (c_f (c_ne (by show x.1≠3; omega))).trans ?_
        refine (c_t (beq_iff_eq.2 h)).trans ?_
        refine bindS hsh ?_
        refine bindS hR ?_
        refine (c_f (by rw [k1]; rfl)).trans ?_
        refine bindS hSt ?_
        rfl
      · intro l hl
        rcases List.mem_append.1 hl with hl | hl
        · exact hi.od l hl
        · rw [List.mem_singleton] at hl; rw [hl]; exact hi.nw
    · rw [if_neg (by rw [hbb]; decide)] at hSt k5
      refine ⟨true,r.2.1,r.2.2,now,old,false,s,tx,lf,texts,?_,fun hb=>⟨rfl,g2,by omega,⟨n + 1,backT t,cur,k5,tt.back hi.g hxx⟩,hi.nw,hi.od,by omega,hi.tl,hi.s0,hi.s1,hi.lz⟩⟩
      unfold F_k36 tree_k36
      refine (c_f (c_ne (by show x.1≠0; omega))).trans ?_
      refine (c_f (c_ne (by show x.1≠1; omega))).trans ?_
      refine (c_f (c_ne (by show x.1≠2; omega))).trans ?_
      refine (c_f (c_ne (by show x.1≠3; omega))).trans ?_
      refine (c_t (beq_iff_eq.2 h)).trans ?_
      refine bindS hsh ?_
      refine bindS hR ?_
      refine (c_f (by rw [k1]; rfl)).trans ?_
      refine bindS hSt ?_
      rfl
theorem step (h4:d≤4) (hj:j < 40) (hi:TI d j o S now old p s tx lf texts) (hx:ActOkG x):Step d j x o S now old p s tx lf texts:=by
  by_cases h0:x.1 = 0
  · exact step0 h4 hj hi hx h0
  by_cases h1:x.1 = 1
  · exact step1 h4 hj hi hx h1
  by_cases h2:x.1 = 2
  · exact step2 h4 hj hi hx h2
  by_cases h3:x.1 = 3
  · exact step3 h4 hj hi h3
  by_cases h4':x.1 = 4
  · exact step4 h4 hj hi hx h4'
  by_cases h5:x.1 = 5
  · exact step5 h4 hj hi h5
  by_cases h6:x.1 = 6
  · exact step6 hi h6
  · exact step_else hi h0 h1 h2 h3 h4' h5 h6
end
def trI (d:Nat) (o:Or) (S now:List ByteArray) (old:List (List ByteArray)) (p:Bool) (s:Int) (tx lf:ByteArray) (texts:List ByteArray):LM_k35_9:=([],o.plains,old,(o.draws,o.drawn,o.bad,()),o.issued,o.met,o.hashes,o.tags,o.seals,o.opens,(3,5,(d:Int),()),(),(256,()),S,texts,mdl p s tx lf,((d:Int),now,()),())
def FinT (r:LO_k35_9):Prop:=(∃ u,r = .inl u∧u.1.1 = true)∨∃ S n t p s tx lf texts,r = .inr ((),([],(),(256,()),S,texts,mdl p s tx lf,()))∧StG 256 S n t∧(p = true↔t.2.2.1 = 1)
abbrev act0'':ActG:=(0,0,0,0,0,ByteArray.empty,ByteArray.empty,[],[])
theorem true_loop {d:Nat} (h4:d≤4) {l:List ActG} (hll:l.length≤140737488355328) (hok:∀ x∈l,ActOkG x):∀ (k j:Nat) (o:Or) (S now:List ByteArray) (old:List (List ByteArray)) (p:Bool) (s:Int) (tx lf:ByteArray) (texts:List ByteArray),j + k = 40→TI d j o S now old p s tx lf texts →
    ∃ r,L_k35_9 (l,(j:Int),()) (trI d o S now old p s tx lf texts) = some r∧FinT r:=by
  intro k
  induction k with
  | zero =>
    intro j o S now old p s tx lf texts hk hi
    obtain ⟨n,t,cur,st,tt⟩:=hi.st
    unfold trI
    rw [Le_k35_9]
    unfold ltree_k35_9
    refine ⟨.inr ((),([],(),(256,()),S,texts,mdl p s tx lf,())),?_,.inr ⟨S,n,t,p,s,tx,lf,texts,rfl,st,tt.pn⟩⟩
    by_cases h1:(j:Int) < (l.length:Int)
    · rw [cd_t h1,cd_f (by omega)]
    · rw [cd_f h1]
  | succ k ih =>
    intro j o S now old p s tx lf texts hk hi
    unfold trI
    rw [Le_k35_9]
    unfold ltree_k35_9
    have ej:IntKind.i64.wrap ((j:Int) + 1) = ((j + 1:Nat):Int):=by rw [i64id (by omega) (by omega)]; simp
    by_cases h1:(j:Int) < (l.length:Int)
    · rw [cd_t h1,cd_t (by omega),cd_t (by omega),cd_t h1,Int.toNat_natCast,ej]
      generalize hx:l.getD j act0'' = x
      have hxo:ActOkG x:=by
        rw [← hx,List.getD_eq_getElem?_getD,List.getElem?_eq_getElem (by omega)]
        exact hok _ (List.getElem_mem (by omega))
      obtain ⟨b,o',S',now',old',p',s',tx',lf',texts',hA,hT⟩:=step h4 (by omega:j < 40) hi hxo
      have hB:=e_Bad o'
      cases hb:b with
      | false =>
        have hbad:o'.bad = true:=by
          cases hq:o'.bad with
          | true=>rfl
          | false=>have:=(hT hq).1; rw [hb] at this; cases this
        refine ⟨_,bindS hA ((c_t (by rw [hb]; rfl)).trans (bindS hB rfl)),.inl ⟨_,rfl,hbad⟩⟩
      | true =>
        cases hq:o'.bad with
        | true =>
          refine ⟨_,bindS hA ((c_f (by rw [hb]; rfl)).trans (bindS hB ((c_t hq).trans rfl))),.inl ⟨_,rfl,rfl⟩⟩
        | false =>
          obtain ⟨r,h5,h6⟩:=ih (j + 1) o' S' now' old' p' s' tx' lf' texts' (by omega) (hT hq).2
          exact ⟨r,bindS hA ((c_f (by rw [hb]; rfl)).trans (bindS hB ((c_f hq).trans h5))),h6⟩
    · obtain ⟨n,t,cur,st,tt⟩:=hi.st
      refine ⟨.inr ((),([],(),(256,()),S,texts,mdl p s tx lf,())),?_,.inr ⟨S,n,t,p,s,tx,lf,texts,rfl,st,tt.pn⟩⟩
      rw [cd_f h1]
theorem GateTrue_plain {draws:List Int} {dp:Int} {l:List ActG} (hd:∀ x,x∈draws→U x) (hdl:draws.length≤17592186044416) (hl:l.length≤140737488355328) (hok:∀ x∈l,ActOkG x):F_k35 (draws,dp,l,()) () = some (true,()):=by
  have g0:=new_G hd
  have hN:=e_New hdl
  have hF:=e_fixed23
  unfold F_k35 tree_k35
  refine bindS hN ?_
  by_cases hdp:0≤dp∧dp≤4
  · obtain ⟨d,rfl⟩:∃ d:Nat,dp = (d:Int):=⟨dp.toNat,by omega⟩
    have h4:d≤4:=by omega
    have d0:(Or.new draws).drawn = 0:=rfl
    obtain ⟨S,root,hM,st,hT⟩:=e_made (o:=Or.new draws) (d:=d) g0 (by rw [d0]; decide) h4
    obtain ⟨g1,x1⟩:=build_G (d:=d) (ls:=[]) g0 (by omega) (by rw [d0]; decide)
    have d1:=(build_wf (d:=d) (ls:=[]) g0.wf (by omega) (by rw [d0]; decide)).2.2.1
    rw [d0] at d1
    generalize (buildS d [] (Or.new draws)).2 = o1 at *
    obtain ⟨p1,p2⟩:=pow_small h4
    obtain ⟨w1,w2,w3⟩:=pow_wrapF h4
    have hc:(2:Int) ^ d = ((2 ^ d:Nat):Int):=by simp
    refine bindS hM ?_
    rw [Sum.elim_inl]
    refine bindS hF ?_
    refine (c_f rfl).trans ?_
    refine (c_f rfl).trans ?_
    dsimp only
    rw [w1,Int.toNat_natCast,w2,cd_t (by omega),cd_t (by omega),cd_t (by omega),cd_t (by omega),cd_t (by omega),cd_t (by omega),cd_t (by omega)]
    obtain ⟨tr0,hT0⟩:=hT
    obtain ⟨r,hr,hfin⟩:=true_loop h4 hl hok 40 0 o1 S (repE d) [] false 0 ByteArray.empty ByteArray.empty (repE d) rfl ⟨g1,by omega,⟨1,resetT root,repE d,st,by omega,Int.le_refl _,(Lvs_repE d).len,⟨tr0,hT0.cg fun i _=>by rw [getD_rep]; rfl⟩,fun i _=>by rw [getD_rep]; exact .inl ⟨rfl,rfl⟩,⟨(fun q=>by cases q),fun q=>absurd (show (0:Int) = 1 from q) (by decide)⟩,fun q=>by cases q⟩,Lvs_repE d,(by intro l hl; cases hl),Nat.zero_le _,(Lvs_repE d).len,Int.le_refl _,by rw [hc]; omega,Nat.zero_le _⟩
    rw [Int.toNat_natCast]
    refine bindS hr ?_
    rcases hfin with ⟨u,rfl,hu⟩ | ⟨S',n,t,p,s,tx,lf,texts,rfl,st',hpn⟩
    · rw [Sum.elim_inl,hu]
    · rw [Sum.elim_inr]
      have hTr:=e_Trust (st_D st')
      rw [st'.trust] at hTr
      refine bindS hTr ?_
      refine (c_t rfl).trans ?_
      show some ((t.2.2.1 == 1) == p,()) = some (true,())
      cases hp:p with
      | true=>rw [hpn.1 hp]; rfl
      | false =>
        have:t.2.2.1≠1:=fun e=>by have:=hpn.2 e; rw [hp] at this; cases this
        rw [beq_false_of_ne this]
        rfl
  · have hM:=e_made_no (o:=Or.new draws) hdp
    refine bindS hM ?_
    rw [Sum.elim_inr]
    refine bindS hF ?_
    refine (c_f rfl).trans ?_
    refine bindS hF ?_
    rfl
end Go.Proofs.Ytljfdfghagiblaa.S2.Mk
