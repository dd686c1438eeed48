/- A gateway that is shown what it wrote serves: in plain words. -/
import Derived.Test.YtljfdfghagiblaaPGForged
import Derived.Test.YtljfdfghagiblaaGLGateServes
set_option linter.unusedVariables false
set_option linter.unusedSimpArgs false
namespace Go.Proofs.Ytljfdfghagiblaa.S2.Mk
open Go Go.Proofs.Ytljfdfghagiblaa.S2
theorem show_hon {o:Or} {d:Nat} {now:List ByteArray} {old:List (List ByteArray)} {y:ActG} {root:Int} {i:Nat} (g:G o) (f:Fr o) (hd:o.drawn≤800000000) (h4:d≤4) (hn:Lvs d now) (ho:∀ l∈old,Lvs d l) (hol:old.length≤1000000) (hy:ActOkG y) (h0:y.2.1 = 0) (hi:y.2.2.2.1.toNat % 2 ^ d = i) (hT:HasTree o d now root) :
    ∃ leaf path o' tr,F_k37 (actT y,()) (shI (d:Int) now old o) = some ((leaf,path,()),shM (d:Int) now old o')∧Shw leaf path∧G o'∧Fr o'∧X o o'∧o'.drawn≤o.drawn + 512∧leaf = now.getD i ByteArray.empty∧path = pathT tr i∧HT o' d now root tr∧(∀ z∈path,0 < isd o' z):=by
  obtain ⟨p1,p2⟩:=pow_small h4
  have hlt:i < 2 ^ d:=by rw [← hi]; exact Nat.mod_lt _ p1
  obtain ⟨leaf,path,o',hsh,hw,g2,x2,d2,hh⟩:=e_show g (by omega) h4 hn ho hol hy
  obtain ⟨e1,e2,e3⟩:=hh h0
  rw [hi] at e1 e2
  have hT2:=build_HT (d:=d) (ls:=now) g.wf (by omega) (by omega)
  have f2:=build_Fr (d:=d) (ls:=now) g f (by omega) (by omega)
  rw [← e3] at hT2 f2
  generalize (buildS d now o).1 = tr at *
  obtain ⟨tr0,hT0⟩:=hT
  have hroot:rootT tr = root:=(hT2.same g2.wf f2.nb (hT0.ext x2)).2 fun i _=>rfl
  rw [hroot] at hT2
  exact ⟨leaf,path,o',tr,hsh,hw,g2,f2,x2,d2,e1,e2,hT2,fun z hz=>hT2.isd g2.wf hlt z (by rw [← e2]; exact hz)⟩
variable (d:Nat) (now texts:List ByteArray) (old:List (List ByteArray))
def rdI (y:ActG) (o:Or) (S:List ByteArray):LM_k33_30:=(old,[],o.plains,actT y,(o.draws,o.drawn,o.bad,()),o.issued,o.met,o.hashes,o.tags,o.seals,o.opens,(3,5,(d:Int),()),(),(256,()),S,((d:Int),now,()),texts,())
def rdO (o:Or) (S:List ByteArray):List (List ByteArray)×List W2×List ByteArray×(List Int×Int×Bool×Unit)×List (Int×Int)×List (Int×Int)×List (ByteArray×Int)×List (TagK×Int)×List (SealK×Int)×List (ToldK×Int)×(Int×Int×Int×Unit)×Unit×(Int×Unit)×List ByteArray×(Int×List ByteArray×Unit)×List ByteArray×Unit:=(old,[],o.plains,(o.draws,o.drawn,o.bad,()),o.issued,o.met,o.hashes,o.tags,o.seals,o.opens,(3,5,(d:Int),()),(),(256,()),S,((d:Int),now,()),texts,())
theorem reads_loop (h4:d≤4) (hn:Lvs d now) (ht:texts.length = 2 ^ d) (ho:∀ l∈old,Lvs d l) (hol:old.length≤1000000) {S:List ByteArray} {n:Int} {t:TrT} (st:StG 256 S n t) (hp:t.2.2.1≠1) (l:List ActG) (y:ActG) (i:Int):∀ (c k:Nat) (o:Or),k + c = 2 ^ d→G o→Fr o→o.drawn≤700000000 - 600 * c→HasTree o d now t.1→(∀ j:Nat,j < 2 ^ d→LfOk o (j:Int) (now.getD j ByteArray.empty) (texts.getD j ByteArray.empty)) →
    ∃ o',L_k33_30 (l,((2 ^ d:Nat):Int),i,(k:Int),()) (rdI d now texts old y o S) = some (.inr ((l,((2 ^ d:Nat):Int),i,()),rdO d now texts old o' S))∧G o'∧Fr o'∧X o o'∧o'.drawn≤o.drawn + 600 * c:=by
  intro c
  induction c with
  | zero =>
    intro k o hk g f hd hT hl
    refine ⟨o,?_,g,f,X.refl o,by omega⟩
    unfold rdI
    rw [Le_k33_30]
    unfold ltree_k33_30
    rw [cd_f (by omega)]
    rfl
  | succ c ih =>
    intro k o hk g f hd hT hl
    obtain ⟨p1,p2⟩:=pow_small h4
    have hc:(2:Int) ^ d = ((2 ^ d:Nat):Int):=by simp
    have hkl:k < 2 ^ d:=by omega
    have hw64:IntKind.u64.wrap (k:Int) = (k:Int):=u64id (by omega) (by omega)
    obtain ⟨leaf,path,o1,tr,hsh,hw,g1,f1,x1,d1,e1,e2,hT1,hpI⟩:=show_hon (y:=(0,0,0,(k:Int),0,ByteArray.empty,ByteArray.empty,[],[])) (i:=k) g f (by omega) h4 hn ho hol ⟨⟨by show (0:Int)≤(k:Int); omega,by show (k:Int) < _; omega⟩,⟨Int.le_refl _,(by show (0:Int) < 18446744073709551616; decide)⟩,⟨Nat.zero_le _,(by intro x hx; cases hx),Nat.zero_le _⟩,Nat.zero_le _⟩ rfl (by show ((k:Int)).toNat % 2 ^ d = k; rw [Int.toNat_natCast,Nat.mod_eq_of_lt hkl]) hT
    have hu5:u64I 5:=⟨by decide,by decide⟩
    have hsk:u64I (k:Int):=⟨by omega,by omega⟩
    have hR:=e_Read (k:=3) (v:=5) (d:=(d:Int)) (sector:=(k:Int)) (S:=S) g1 (by omega) hw (by omega) (by omega) (st_D st) hu5 hsk
    have hlf:LfOk o1 (k:Int) leaf (texts.getD k ByteArray.empty):=by rw [e1]; exact (hl k hkl).ext g x1
    have f2:=read_Fr (k:=3) (v:=5) (d:=(d:Int)) (S:=S) (sector:=(k:Int)) g1 f1 (by omega) (known_lf hlf) (path:=path) (fun z hz=>.inl (hpI z hz))
    obtain ⟨g2,x2,d2,_⟩:=read_G g1 (by omega) 3 5 (d:Int) S (k:Int) leaf path
    have er:=read_honest g1 (by omega) h4 st hT1 (by omega) (by rw [hc]; omega) hp (by rw [Int.toNat_natCast]; exact e1) (by rw [Int.toNat_natCast]; exact e2) hlf f2.nb
    have xx:=x1.trans x2
    generalize readF 3 5 (d:Int) o1 S (k:Int) leaf path = r at *
    obtain ⟨o',h1,h2,h3,h5,h6⟩:=ih (k + 1) r.2 (by omega) g2 f2 (by omega) (hT.ext xx) (fun j hj=>(hl j hj).ext g xx)
    refine ⟨o',?_,h2,h3,xx.trans h5,by omega⟩
    have ek:IntKind.i64.wrap ((k:Int) + 1) = ((k + 1:Nat):Int):=by rw [i64id (by omega) (by omega)]; simp
    unfold rdI
    rw [Le_k33_30]
    unfold ltree_k33_30
    rw [cd_t (by omega),hw64,ek]
    refine bindS hsh ?_
    refine bindS hR ?_
    refine (c_f (by rw [er]; rfl)).trans ?_
    refine (cd_t (by omega)).trans ?_
    refine (cd_t (by rw [ht]; omega)).trans ?_
    refine (c_f (by
      rw [er,Nat.zero_add,Int.toNat_natCast]
      show (!((texts.getD k ByteArray.empty).toList == (texts.getD k ByteArray.empty).toList)) = false
      rw [show ((texts.getD k ByteArray.empty).toList == (texts.getD k ByteArray.empty).toList) = true from bytes_self _]
      rfl)).trans ?_
    exact h1
abbrev act0':ActG:=(0,0,0,0,0,ByteArray.empty,ByteArray.empty,[],[])
structure VI (d:Nat) (j:Nat) (o:Or) (S now texts:List ByteArray) (old:List (List ByteArray)):Prop where
  g:G o
  f:Fr o
  dr:o.drawn≤20000 * (j:Int) + 1000
  st:∃ n t,StG 256 S n t∧n≤4 * (j:Int) + 1∧t.2.2.1≠1∧t.2.1≤j∧HasTree o d now t.1
  nw:Lvs d now
  od:∀ l∈old,Lvs d l
  ol:old.length≤j
  tl:texts.length = 2 ^ d
  lf:∀ i:Nat,i < 2 ^ d→LfOk o (i:Int) (now.getD i ByteArray.empty) (texts.getD i ByteArray.empty)
def jnI (y:ActG) (o:Or) (S:List ByteArray):LM_k33_100028:=(o.plains,old,[],actT y,(o.draws,o.drawn,o.bad,()),o.issued,o.met,o.hashes,o.tags,o.seals,o.opens,(3,5,(d:Int),()),(),(256,()),S,((d:Int),now,()),texts,())
theorem join_serves {j:Nat} {l:List ActG} {y:ActG} {o:Or} {S:List ByteArray} {n:Int} {t:TrT} {s:Nat} {leaf p:ByteArray} (h4:d≤4) (hj:j < 20) (g:G o) (f:Fr o) (dr:o.drawn≤20000 * (j:Int) + 6000) (st:StG 256 S n t) (hn:n≤4 * (j:Int) + 5) (hp:t.2.2.1≠1) (hv:t.2.1≤(j:Int) + 1) (hs:s < 2 ^ d) (hys:y.2.2.2.1 = (s:Int)) (hyp:y.2.2.2.2.2.1 = p)
    (hT:HasTree o d (now.set s leaf) t.1) (hnow:Lvs d now) (hlz:leaf.size≤40) (hold:∀ l∈old,Lvs d l) (hol:old.length≤j) (htl:texts.length = 2 ^ d) (hlf:∀ i:Nat,i < 2 ^ d→LfOk o (i:Int) (now.getD i ByteArray.empty) (texts.getD i ByteArray.empty)) (hl:LfOk o (s:Int) leaf p) :
    ∃ o',L_k33_100028 (l,((2 ^ d:Nat):Int),(j:Int),()) (jnI d (now.set s leaf) texts (old ++ [now]) y o S) = some (.inr ((l,((2 ^ d:Nat):Int),(j:Int),()),rdO d (now.set s leaf) (texts.set s p) (old ++ [now]) o' S))∧VI d (j + 1) o' S (now.set s leaf) (texts.set s p) (old ++ [now]):=by
  obtain ⟨p1,p2⟩:=pow_small h4
  have hLv:Lvs d (now.set s leaf):=hnow.set s (by omega)
  have hold':∀ l∈old ++ [now],Lvs d l:=by
    intro l hl
    rcases List.mem_append.1 hl with hl | hl
    · exact hold l hl
    · rw [List.mem_singleton] at hl; rw [hl]; exact hnow
  have hlf':∀ i:Nat,i < 2 ^ d→LfOk o (i:Int) ((now.set s leaf).getD i ByteArray.empty) ((texts.set s p).getD i ByteArray.empty):=by
    intro i hi
    rw [getDs_set _ _ _ _ (by rw [hnow.len]; exact hs),getDs_set _ _ _ _ (by rw [htl]; exact hs)]
    by_cases e:i = s
    · rw [if_pos e,if_pos e,e]; exact hl
    · rw [if_neg e,if_neg e]; exact hlf i hi
  obtain ⟨o',h1,h2,h3,h5,h6⟩:=reads_loop d (now.set s leaf) (texts.set s p) (old ++ [now]) h4 hLv (by rw [List.length_set]; exact htl) hold' (by simp; omega) st hp l y (j:Int) (2 ^ d) 0 o (by omega) g f (by omega) hT hlf'
  refine ⟨o',?_,⟨h2,h3,by omega,⟨n,t,st,by omega,hp,by omega,hT.ext h5⟩,hLv,hold',by simp; omega,by rw [List.length_set]; exact htl,fun i hi=>(hlf' i hi).ext g h5⟩⟩
  have hsw:IntKind.i64.wrap y.2.2.2.1 = (s:Int):=by rw [hys]; exact i64id (by omega) (by omega)
  unfold L_k33_100028 ltree_k33_100028
  refine (cd_t (by show (0:Int)≤IntKind.i64.wrap y.2.2.2.1; rw [hsw]; omega)).trans ?_
  refine (cd_t (by show IntKind.i64.wrap y.2.2.2.1 < (texts.length:Int); rw [hsw,htl]; omega)).trans ?_
  have h1':L_k33_30 (l,((2 ^ d:Nat):Int),(j:Int),0,()) (rdI d (now.set s leaf) (texts.set (0 + (IntKind.i64.wrap y.2.2.2.1).toNat) y.2.2.2.2.2.1) (old ++ [now]) y o S) = some (.inr ((l,((2 ^ d:Nat):Int),(j:Int),()),rdO d (now.set s leaf) (texts.set s p) (old ++ [now]) o' S)):=by
    rw [hsw,Int.toNat_natCast,Nat.zero_add,hyp]
    exact h1
  refine bindS h1' ?_
  rfl
def svI (o:Or) (S:List ByteArray):LM_k33_9:=(o.plains,old,[],(o.draws,o.drawn,o.bad,()),o.issued,o.met,o.hashes,o.tags,o.seals,o.opens,(3,5,(d:Int),()),(),(256,()),S,((d:Int),now,()),texts,())
def svE (o:Or):List ByteArray×(List Int×Int×Bool×Unit)×List (Int×Int)×List (Int×Int)×List (ByteArray×Int)×List (TagK×Int)×List (SealK×Int)×List (ToldK×Int)×Unit:=(o.plains,(o.draws,o.drawn,o.bad,()),o.issued,o.met,o.hashes,o.tags,o.seals,o.opens,())
theorem serves_loop (h4:d≤4) {l:List ActG} (hll:l.length≤140737488355328) (hok:∀ x∈l,ActOkG x):∀ (k j:Nat) (o:Or) (S now texts:List ByteArray) (old:List (List ByteArray)),j + k = 20→VI d j o S now texts old →
    ∃ o',L_k33_9 (l,((2 ^ d:Nat):Int),(j:Int),()) (svI d now texts old o S) = some (.inr (.inr (.inr (.inr ((),svE o')))))∧o'.bad = false:=by
  intro k
  induction k with
  | zero =>
    intro j o S now texts old hk h
    unfold svI
    rw [Le_k33_9]
    unfold ltree_k33_9
    refine ⟨o,?_,h.f.nb⟩
    by_cases h1:(j:Int) < (l.length:Int)
    · rw [cd_t h1,cd_f (by omega)]
      rfl
    · rw [cd_f h1]
      rfl
  | succ k ih =>
    intro j o S now texts old hk h
    obtain ⟨g,f,dr,⟨n,t,st,hn,hp,hv,hT⟩,hnow,hold,hol,htl,hlf⟩:=h
    obtain ⟨p1,p2⟩:=pow_small h4
    have hc:(2:Int) ^ d = ((2 ^ d:Nat):Int):=by simp
    have ej:IntKind.i64.wrap ((j:Int) + 1) = ((j + 1:Nat):Int):=by rw [i64id (by omega) (by omega)]; simp
    have hw2:IntKind.u64.wrap ((2 ^ d:Nat):Int) = ((2 ^ d:Nat):Int):=u64id (by omega) (by omega)
    unfold svI
    rw [Le_k33_9]
    unfold ltree_k33_9
    by_cases h1:(j:Int) < (l.length:Int)
    · rw [cd_t h1,cd_t (by omega),cd_t (by omega),cd_t h1,hw2,c_t (by rw [decide_eq_false (by omega)]; rfl),Int.toNat_natCast,ej]
      generalize hx:l.getD j act0' = x
      have hxo:ActOkG x:=by
        rw [← hx,List.getD_eq_getElem?_getD,List.getElem?_eq_getElem (by omega)]
        exact hok _ (List.getElem_mem (by omega))
      by_cases hps:(x.2.2.2.2.2.1.size:Int) > 4096
      · obtain ⟨o',q1,q2⟩:=ih (j + 1) o S now texts old (by omega) ⟨g,f,by omega,⟨n,t,st,by omega,hp,by omega,hT⟩,hnow,hold,by omega,htl,hlf⟩
        refine ⟨o',?_,q2⟩
        rw [cd_t hps]
        exact q1
      · rw [cd_f hps]
        have hps':x.2.2.2.2.2.1.size≤4096:=by omega
        have hs4:x.2.2.2.1.tmod ((2 ^ d:Nat):Int) = ((x.2.2.2.1.toNat % 2 ^ d:Nat):Int):=tmod_mod hxo.s.1 p1
        have hmlt:x.2.2.2.1.toNat % 2 ^ d < 2 ^ d:=Nat.mod_lt _ p1
        rw [hs4]
        generalize hsj:x.2.2.2.1.toNat % 2 ^ d = s at hmlt
        have hm1:=Int.tmod_lt_of_pos x.2.2.2.2.1 (b:=1000) (by decide)
        have hm0:=Int.tmod_nonneg 1000 hxo.h.1
        generalize x.2.2.2.2.1.tmod 1000 = ep at hm1 hm0
        obtain ⟨y,hy⟩:∃ y:ActG,y = (x.1,0,x.2.2.1,(s:Int),x.2.2.2.2.1,x.2.2.2.2.2.1,x.2.2.2.2.2.2.1,x.2.2.2.2.2.2.2.1,x.2.2.2.2.2.2.2.2):=⟨_,rfl⟩
        have hyo:ActOkG y:=by
          rw [hy]
          exact ⟨⟨by show (0:Int)≤(s:Int); omega,by show (s:Int) < _; omega⟩,hxo.h,hxo.shw,hxo.pz⟩
        have hyj:y.2.2.2.1.toNat % 2 ^ d = s:=by
          rw [hy]
          show ((s:Int)).toNat % 2 ^ d = s
          rw [Int.toNat_natCast,Nat.mod_eq_of_lt hmlt]
        have hy0:y.2.1 = 0:=by rw [hy]
        have hya:actT y = (x.1,0,x.2.2.1,(s:Int),x.2.2.2.2.1,x.2.2.2.2.2.1,x.2.2.2.2.2.2.1,x.2.2.2.2.2.2.2.1,x.2.2.2.2.2.2.2.2,()):=by rw [hy]; rfl
        rw [← hya]
        have hu5:u64I 5:=⟨by decide,by decide⟩
        have hue:u64I ep:=⟨hm0,by omega⟩
        have hss:u64I (s:Int):=⟨by omega,by omega⟩
        have hsd:(s:Int) < 2 ^ d:=by rw [hc]; omega
        -- the write
        obtain ⟨leaf1,path1,o1,tr1,hsh1,hw1,g1,f1,x1,d1,e1,e2,hT1,hpI1⟩:=show_hon g f (by omega) h4 hnow hold (by omega) hyo hy0 hyj hT
        have hW:=e_Write (k:=3) (v:=5) (d:=(d:Int)) (sector:=(s:Int)) (epoch:=ep) (p:=x.2.2.2.2.2.1) (S:=S) g1 (by omega) hw1 (by omega) (by omega) (st_D st) hu5 hss hue
        have hk1:Known o1 leaf1:=by rw [e1]; exact known_lf ((hlf s hmlt).ext g x1)
        have fW:∀ (oo:Or) (SS:List ByteArray) (lf:ByteArray) (pa:List Int),G oo→Fr oo→oo.drawn≤800000000→Known oo lf→(∀ z∈pa,0 < isd oo z)→Fr (writeF 3 5 (d:Int) oo SS (s:Int) ep x.2.2.2.2.2.1 lf pa).2.1:=by
          intro oo SS lf pa go fo ho hko hpo
          have:writeF 3 5 (d:Int) oo SS (s:Int) ep x.2.2.2.2.2.1 lf pa = changeF (d:Int) oo SS (s:Int) lf pa (sealL 3 5 (s:Int) ep x.2.2.2.2.2.1):=if_neg (fun q=>hps q.2)
          rw [this]
          exact change_Fr go fo ho hko (fun z hz=>.inl (hpo z hz)) (seal_mkFr 3 5 (s:Int) ep x.2.2.2.2.2.1 hue)
        have f2:=fW o1 S leaf1 path1 g1 f1 (by omega) hk1 hpI1
        have w:=write_honest (epoch:=ep) (p:=x.2.2.2.2.2.1) g1 (by omega) h4 st (by omega) hT1 hnow.len hss hsd hp hue hps' hw1 (by rw [Int.toNat_natCast]; exact e1) (by rw [Int.toNat_natCast]; exact e2) f2.nb
        generalize hr2:writeF 3 5 (d:Int) o1 S (s:Int) ep x.2.2.2.2.2.1 leaf1 path1 = r2 at *
        have hne:r2.1.1≠ByteArray.empty:=fun e=>w.nw 0 ByteArray.empty (by rw [e]; exact .inl ⟨rfl,rfl⟩)
        obtain ⟨next,tr6,st6,hT6,hp6⟩:=w.st
        rw [Int.toNat_natCast] at hT6 hp6
        have g2:=w.g
        have d2:=w.dr
        have x2:=w.x
        have hlz:=w.sz
        have hv6:t.2.1 < 18446744073709551615:=by omega
        have hns:(now.set s r2.1.1).getD s ByteArray.empty = r2.1.1:=by rw [getDs_set _ _ _ _ (by rw [hnow.len]; exact hmlt),if_pos rfl]
        have hPut:∀ lf,F_k36 ((s:Int),lf,()) (((d:Int),now,()),old,()) = some ((),(((d:Int),now.set s lf,()),(),old ++ [now],())):=by
          intro lf
          have:=e_put (d:=(d:Int)) (now:=now) (old:=old) (s:=(s:Int)) (leaf:=lf) (by omega) (by rw [hnow.len]; omega) (by rw [hnow.len]; omega) (by omega)
          rw [Int.toNat_natCast] at this
          exact this
        by_cases hdo:x.1.tmod 2 = 0
        · -- it is found to have happened
          have hold':∀ l∈old ++ [now],Lvs d l:=by
            intro l hl
            rcases List.mem_append.1 hl with hl | hl
            · exact hold l hl
            · rw [List.mem_singleton] at hl; rw [hl]; exact hnow
          obtain ⟨leaf4,path4,o4,tr4,hsh4,hw4,g4,f4,x4,d4,a1,a2,hT4,hpI4⟩:=show_hon (old:=old ++ [now]) g2 f2 (by omega) h4 (hnow.set s (by omega)) hold' (by simp; omega) hyo hy0 hyj ⟨tr6,hT6⟩
          rw [hns] at a1
          have hlf4:LfOk o4 (s:Int) leaf4 x.2.2.2.2.2.1:=by rw [a1]; exact w.lf.ext g2 x4
          have fl:=leads_Fr (d:=(d:Int)) (sector:=(s:Int)) g4 f4 (by omega) (known_lf hlf4) (path:=path4) (fun z hz=>.inl (hpI4 z hz))
          have hL:=leads_honest g4 (by omega) h4 hT4 (by omega) hsd (by rw [Int.toNat_natCast,hns]; exact a1) (by rw [Int.toNat_natCast]; exact a2) fl.nb
          obtain ⟨gl,xl,dl⟩:=leads_G g4 (d:Int) (s:Int) leaf4 path4 (by omega)
          have hR:=e_Recover (k:=3) (v:=5) (d:=(d:Int)) (S:=r2.2.2) g4 (by omega) hw4 (st_D st6)
          rcases rec_sem (o:=o4) st6 (by omega) hv6 (d:Int) leaf4 path4 with q | ⟨q1,q2,q3,q4,q5⟩
          · have hq:=q.2.2.2 rfl
            dsimp only at hq
            rw [hL] at hq
            exact (hq rfl (.inl rfl)).elim
          · dsimp only at q3 q4
            rw [hL] at q3
            have q3':(recF (d:Int) o4 r2.2.2 leaf4 path4).1.1 = true:=by rw [q3]; exact beq_self_eq_true _
            rw [if_pos q3'] at q5
            generalize recF (d:Int) o4 r2.2.2 leaf4 path4 = r5 at *
            obtain ⟨o',h7,h8⟩:=join_serves d now texts old (l:=l) (y:=y) (o:=r5.2.1) (S:=r5.2.2) (s:=s) (leaf:=r2.1.1) (p:=x.2.2.2.2.2.1) h4 (by omega:j < 20) (by rw [q4]; exact gl) (by rw [q4]; exact fl) (by rw [q4]; omega) q5 (by omega) (show (0:Int)≠1 by decide) (by show t.2.1 + 1≤_; omega) hmlt (by rw [hy]) (by rw [hy]) (by rw [q4]; exact ⟨_,hT4.ext xl⟩) hnow hlz hold hol htl (by
              intro i hi
              rw [q4]
              exact (hlf i hi).ext g (x1.trans (x2.trans (x4.trans xl)))) (by rw [q4,← a1]; exact hlf4.ext g4 xl)
            obtain ⟨of,hf1,hf2⟩:=ih (j + 1) o' _ _ _ _ (by omega) h8
            refine ⟨of,?_,hf2⟩
            refine bindS hsh1 ?_
            refine bindS hW ?_
            refine (c_f (by rw [w.ok]; rfl)).trans ?_
            refine (c_f (by rw [bytes_beq,decide_eq_false hne])).trans ?_
            refine (c_t (beq_iff_eq.2 hdo)).trans ?_
            refine bindS (hPut r2.1.1) ?_
            refine bindS hsh4 ?_
            refine bindS hR ?_
            refine (c_f (by rw [q1]; rfl)).trans ?_
            refine (c_f (by rw [q3']; rfl)).trans ?_
            refine bindS h7 ?_
            rw [Sum.elim_inr]
            rw [← ej] at hf1
            exact hf1
        · -- it is found not to have happened,and written again
          obtain ⟨leaf8,path8,o8,tr8,hsh8,hw8,g8,f8,x8,d8,a1,a2,hT8,hpI8⟩:=show_hon g2 f2 (by omega) h4 hnow hold (by omega) hyo hy0 hyj (hT.ext (x1.trans x2))
          have hx18:=x1.trans (x2.trans x8)
          have hlf8:LfOk o8 (s:Int) leaf8 (texts.getD s ByteArray.empty):=by rw [a1]; exact (hlf s hmlt).ext g hx18
          have fl:=leads_Fr (d:=(d:Int)) (sector:=(s:Int)) g8 f8 (by omega) (known_lf hlf8) (path:=path8) (fun z hz=>.inl (hpI8 z hz))
          have hL:=leads_honest g8 (by omega) h4 hT8 (by omega) hsd (by rw [Int.toNat_natCast]; exact a1) (by rw [Int.toNat_natCast]; exact a2) fl.nb
          obtain ⟨gl,xl,dl⟩:=leads_G g8 (d:Int) (s:Int) leaf8 path8 (by omega)
          have hrn:t.1≠next:=by
            intro e
            have:=(hT8.same g8.wf f8.nb (hT6.ext x8)).1 e s hmlt
            rw [hns] at this
            exact w.nw (s:Int) (texts.getD s ByteArray.empty) (by rw [← this]; exact (hlf s hmlt).ext g x1)
          have hR:=e_Recover (k:=3) (v:=5) (d:=(d:Int)) (S:=r2.2.2) g8 (by omega) hw8 (st_D st6)
          rcases rec_sem (o:=o8) st6 (by omega) hv6 (d:Int) leaf8 path8 with q | ⟨q1,q2,q3,q4,q5⟩
          · have hq:=q.2.2.2 rfl
            dsimp only at hq
            rw [hL] at hq
            exact (hq rfl (.inr rfl)).elim
          · dsimp only at q3 q4
            rw [hL] at q3
            have q3':(recF (d:Int) o8 r2.2.2 leaf8 path8).1.1 = false:=by rw [q3]; exact beq_false_of_ne hrn
            rw [if_neg (by rw [q3']; decide)] at q5
            generalize recF (d:Int) o8 r2.2.2 leaf8 path8 = r9 at *
            have g9:G r9.2.1:=by rw [q4]; exact gl
            have f9:Fr r9.2.1:=by rw [q4]; exact fl
            have x9:X o8 r9.2.1:=by rw [q4]; exact xl
            have d9:r9.2.1.drawn≤o8.drawn + 9:=by rw [q4]; exact dl
            obtain ⟨leafA,pathA,oA,trA,hshA,hwA,gA,fA,xA,dA,b1,b2,hTA,hpIA⟩:=show_hon g9 f9 (by omega) h4 hnow hold (by omega) hyo hy0 hyj (hT.ext (hx18.trans x9))
            have hWA:=e_Write (k:=3) (v:=5) (d:=(d:Int)) (sector:=(s:Int)) (epoch:=ep) (p:=x.2.2.2.2.2.1) (S:=r9.2.2) gA (by omega) hwA (by omega) (by omega) (st_D q5) hu5 hss hue
            have hxA:=hx18.trans (x9.trans xA)
            have hkA:Known oA leafA:=by rw [b1]; exact known_lf ((hlf s hmlt).ext g hxA)
            have fB:=fW oA r9.2.2 leafA pathA gA fA (by omega) hkA hpIA
            have w2:=write_honest (epoch:=ep) (p:=x.2.2.2.2.2.1) gA (by omega) h4 q5 (by omega) hTA hnow.len hss hsd (show (0:Int)≠1 by decide) hue hps' hwA (by rw [Int.toNat_natCast]; exact b1) (by rw [Int.toNat_natCast]; exact b2) fB.nb
            generalize hrB:writeF 3 5 (d:Int) oA r9.2.2 (s:Int) ep x.2.2.2.2.2.1 leafA pathA = rB at *
            obtain ⟨nextB,trB,stB,hTB,hpB⟩:=w2.st
            rw [Int.toNat_natCast] at hTB
            have gB:=w2.g
            have dB:=w2.dr
            have hag:rB.1.1≠r2.1.1:=fun e=>w2.nw (s:Int) x.2.2.2.2.2.1 (by rw [e]; exact w.lf.ext g2 (x8.trans (x9.trans xA)))
            have hDn:=e_Done rB.2.1 (k:=3) (v:=5) (d:=(d:Int)) (st_D stB)
            rcases done_sem stB (by omega) hv6 with q | ⟨u1,u2,u3⟩
            · exact absurd (show (1:Int) = 0 from q.1) (by decide)
            obtain ⟨o',h7,h8⟩:=join_serves d now texts old (l:=l) (y:=y) (o:=rB.2.1) (S:=doneS rB.2.2) (s:=s) (leaf:=rB.1.1) (p:=x.2.2.2.2.2.1) h4 (by omega:j < 20) gB fB (by omega) u3 (by omega) (show (0:Int)≠1 by decide) (by show t.2.1 + 1≤_; omega) hmlt (by rw [hy]) (by rw [hy]) ⟨_,hTB⟩ hnow w2.sz hold hol htl (by
              intro i hi
              exact (hlf i hi).ext g (hxA.trans w2.x)) w2.lf
            obtain ⟨of,hf1,hf2⟩:=ih (j + 1) o' _ _ _ _ (by omega) h8
            refine ⟨of,?_,hf2⟩
            refine bindS hsh1 ?_
            refine bindS hW ?_
            refine (c_f (by rw [w.ok]; rfl)).trans ?_
            refine (c_f (by rw [bytes_beq,decide_eq_false hne])).trans ?_
            refine (c_f (beq_false_of_ne hdo)).trans ?_
            refine bindS hsh8 ?_
            refine bindS hR ?_
            refine bindS hshA ?_
            refine bindS hWA ?_
            refine (c_f (by rw [q1]; rfl)).trans ?_
            refine (c_f q3').trans ?_
            refine (c_f (by rw [w2.ok]; rfl)).trans ?_
            refine (c_f (by rw [bytes_beq,decide_eq_false hag])).trans ?_
            refine bindS hDn ?_
            refine (c_f (by rw [u2]; rfl)).trans ?_
            refine bindS (hPut rB.1.1) ?_
            refine bindS h7 ?_
            rw [Sum.elim_inr]
            rw [← ej] at hf1
            exact hf1
    · rw [cd_f h1]
      exact ⟨o,rfl,f.nb⟩
theorem GateServes_plain {dp:Int} {l:List ActG} (hl:l.length≤140737488355328) (hok:∀ x∈l,ActOkG x):F_k33 (dp,l,()) () = some (true,()):=by
  have hz:∀ x:Int,x∈([]:List Int)→U x:=fun x hx=>by cases hx
  have g0:=new_G hz
  have f0:=fr_new
  have d0:(Or.new []).drawn = 0:=rfl
  have hN:=e_New (draws:=[]) (by simp)
  have hF:=e_fixed23
  unfold F_k33 tree_k33
  refine bindS hN ?_
  by_cases hdp:0≤dp∧dp≤4
  · obtain ⟨d,rfl⟩:∃ d:Nat,dp = (d:Int):=⟨dp.toNat,by omega⟩
    have h4:d≤4:=by omega
    obtain ⟨S,root,hM,st,hT⟩:=e_made (o:=Or.new []) (d:=d) g0 (by rw [d0]; decide) h4
    obtain ⟨g1,x1⟩:=build_G (d:=d) (ls:=[]) g0 (by omega) (by rw [d0]; decide)
    have f1:=build_Fr (d:=d) (ls:=[]) g0 f0 (by omega) (by rw [d0]; decide)
    have d1:=(build_wf (d:=d) (ls:=[]) g0.wf (by omega) (by rw [d0]; decide)).2.2.1
    rw [d0] at d1
    generalize (buildS d [] (Or.new [])).2 = o1 at *
    obtain ⟨p1,p2⟩:=pow_small h4
    obtain ⟨w1,w2,w3⟩:=pow_wrapF h4
    refine bindS hM ?_
    rw [Sum.elim_inl]
    refine bindS hF ?_
    refine (c_f rfl).trans ?_
    refine (c_f rfl).trans ?_
    dsimp only
    rw [w1,Int.toNat_natCast,w2,cd_t (by omega),cd_t (by omega),cd_t (by omega),cd_t (by omega),cd_t (by omega),cd_t (by omega),cd_t (by omega)]
    obtain ⟨tr0,hT0⟩:=hT
    obtain ⟨o',hr,hb⟩:=serves_loop d h4 hl hok 20 0 o1 S (repE d) (repE d) [] rfl ⟨g1,f1,by omega,⟨1,_,st,by omega,show (0:Int)≠1 by decide,Int.le_refl _,⟨tr0,hT0.cg fun i _=>by rw [getD_rep]; rfl⟩⟩,Lvs_repE d,(by intro l hl; cases hl),Nat.zero_le _,(Lvs_repE d).len,fun i hi=>by rw [getD_rep]; exact .inl ⟨rfl,rfl⟩⟩
    rw [Int.toNat_natCast]
    refine bindS hr ?_
    have hB:=e_Bad o'
    rw [Sum.elim_inr,Sum.elim_inr,Sum.elim_inr,Sum.elim_inr]
    refine bindS hB ?_
    rw [hb]
    rfl
  · have hM:=e_made_no (o:=Or.new []) hdp
    refine bindS hM ?_
    rw [Sum.elim_inr]
    refine bindS hF ?_
    refine (c_f rfl).trans ?_
    refine bindS hF ?_
    rfl
end Go.Proofs.Ytljfdfghagiblaa.S2.Mk
