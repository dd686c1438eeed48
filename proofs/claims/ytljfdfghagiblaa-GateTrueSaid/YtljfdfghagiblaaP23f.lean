/- What a gate's answers mean. -/
import Derived.Test.YtljfdfghagiblaaP23a
set_option linter.unusedVariables false
set_option linter.unusedSimpArgs false
namespace Go.Proofs.Ytljfdfghagiblaa.S2.Mk
open Go Go.Proofs.Ytljfdfghagiblaa.S2
theorem text_le {t:TrT} (h:TrOk t):(textB t).size≤60 + t.2.2.2.2.2.1.size:=by
  have s1:=S2.putB_size h.a.1 h.a.2
  have s2:=S2.putB_size h.b.1 h.b.2
  have s3:=S2.putB_size h.c.1 h.c.2
  have s4:=S2.putB_size h.d.1 h.d.2
  have s5:=S2.putB_size h.e.1 h.e.2
  have s6:=S2.putB_size (n:=(t.2.2.2.2.2.1.size:Int)) (by omega) (by have:=h.f; omega)
  unfold textB
  simp only [ByteArray.size_append]
  omega
theorem save_ok {S:List ByteArray} {n:Int} {last:ByteArray} {u:TrT} (h:SlotG 256 S n last) (hn:n < 1000000) (ho:TrOk u) (hm:mayT u) (hl:u.2.2.2.2.2.1.size≤40) :
    (doD 256 S [] (some u)).1 = true∧StG 256 (doD 256 S [] (some u)).2.1 (n + 1) u:=by
  obtain ⟨S',h1,h2,_⟩:=st_save h hn ho hm
  have hz:=text_le ho
  have hz':((textB u).size:Int)≤256 - 18:=by omega
  rw [h1]
  exact ⟨decide_eq_true hz',h2 hz'⟩
theorem wrap_sec {d:Nat} {s:Int} (h4:d≤4) (h0:0≤s) (h1:s < 2 ^ d):IntKind.i64.wrap s = s∧s.toNat < 2 ^ d:=by
  have hp:=pow_small h4
  have hc:(2:Int) ^ d = ((2 ^ d:Nat):Int):=by simp
  rw [hc] at h1
  exact ⟨i64id (by omega) (by omega),by omega⟩
theorem leads_cur {o:Or} {d:Nat} {cur:List ByteArray} {root sector:Int} {tr:List (List Int)} {leaf:ByteArray} {path:List Int} (g:G o) (hd:o.drawn≤900000000) (h4:d≤4) (h:HT o d cur root tr) (h0:0≤sector) (h1:sector < 2 ^ d) (hw:Shw leaf path)
    (hl:(leadsF (d:Int) o sector leaf path).1.2 = true) (hr:(leadsF (d:Int) o sector leaf path).1.1 = root) (hb:(leadsF (d:Int) o sector leaf path).2.bad = false):leaf = cur.getD sector.toNat ByteArray.empty∧path = pathT tr sector.toNat:=by
  obtain ⟨ws,wl⟩:=wrap_sec h4 h0 h1
  obtain ⟨g1,x1,d1⟩:=looks_G g leaf path
  unfold leadsF at hl hr hb
  split at hl
  · rename_i hc
    rw [if_pos hc] at hr hb
    rw [ws] at hr hb
    have hk:=climbF_root g1 (h.ext x1) (s:=leaf) (p:=path) (i:=sector.toNat) (by have:=hc.1; omega) (by omega) hw.u wl (by omega) hb
    exact hk.1 hr
  · cases hl
theorem leads_honest {o:Or} {d:Nat} {cur:List ByteArray} {root sector:Int} {tr:List (List Int)} {leaf:ByteArray} {path:List Int} (g:G o) (hd:o.drawn≤900000000) (h4:d≤4) (h:HT o d cur root tr) (h0:0≤sector) (h1:sector < 2 ^ d)
    (hl:leaf = cur.getD sector.toNat ByteArray.empty) (hp:path = pathT tr sector.toNat) (hb:(leadsF (d:Int) o sector leaf path).2.bad = false):(leadsF (d:Int) o sector leaf path).1 = (root,true):=by
  obtain ⟨ws,wl⟩:=wrap_sec h4 h0 h1
  obtain ⟨g1,x1,d1⟩:=looks_G g leaf path
  have hpl:path.length = d:=by rw [hp,path_len,h.len]; rfl
  have hc:(path.length:Int) = (d:Int)∧okClimb (IntKind.i64.wrap sector) path:=by
    refine ⟨by omega,by omega,by rw [ws]; exact h0,?_⟩
    rw [ws,hpl]
    exact h1
  unfold leadsF at hb ⊢
  rw [if_pos hc] at hb ⊢
  rw [ws] at hb ⊢
  have hk:=climbF_root g1 (h.ext x1) (s:=leaf) (p:=path) (i:=sector.toNat) hpl (by omega) (by rw [hp]; exact path_U h.allU _) wl (by omega) hb
  rw [hk.2 ⟨hl,hp⟩]
def LfOk (o:Or) (s:Int) (leaf text:ByteArray):Prop:=(leaf = ByteArray.empty∧text = ByteArray.empty) ∨
  ∃ ver ep n c i,u64I ver∧u64I ep∧u64I n∧u64I c∧leaf = fourB ver ep n c∧told1 o 3 n c (fourB 5 s ver ep) i∧o.plains.getD (i - 1).toNat ByteArray.empty = text∧0 < isd o n∧0 < isd o c
theorem LfOk.ext {o o':Or} (g:G o) (x:X o o') {s:Int} {leaf text:ByteArray} (h:LfOk o s leaf text):LfOk o' s leaf text:=by
  rcases h with h | ⟨ver,ep,n,c,i,h1,h2,h3,h4,h5,h6,h7,h8,h9⟩
  · exact .inl h
  · refine .inr ⟨ver,ep,n,c,i,h1,h2,h3,h4,h5,x.opn _ _ _ _ _ h6,?_,Int.lt_of_lt_of_le h8 (x.iss _),Int.lt_of_lt_of_le h9 (x.iss _)⟩
    obtain ⟨y,hy,hyi⟩:=mfind_mem h6
    have:=g.told y hy
    rw [x.pls _ (by omega)]
    exact h7
theorem four_ne {a b c d:Int}:fourB a b c d≠ByteArray.empty:=by
  intro e
  have h:=congrArg ByteArray.size e
  unfold fourB at h
  simp only [ByteArray.size_append] at h
  have:∀ n:Int,0 < (S2.putB n).size:=by
    intro n
    rw [← S2.bs_len,S2.bs_put]
    generalize n.toNat = m
    unfold S2.putL
    split <;> simp
  have:=this a
  have h0:ByteArray.empty.size = 0:=rfl
  omega
theorem LfOk.read {o:Or} (g:G o) {s:Int} {leaf text:ByteArray} (h:LfOk o s leaf text) (hne:leaf≠ByteArray.empty):(parL leaf).2 = true∧unlF 3 5 o s leaf = (text,true,o):=by
  rcases h with h | ⟨ver,ep,n,c,i,h1,h2,h3,h4,h5,h6,h7,_⟩
  · exact (hne h.1).elim
  · have hp:=par_four h1 h2 h3 h4
    rw [← h5] at hp
    refine ⟨by rw [hp],?_⟩
    unfold unlF Or.opn
    rw [hp]
    dsimp only
    have h6':mfind eqD (3,n,c,fourB 5 s ver ep) o.opens = some i:=h6
    rw [h6']
    dsimp only
    rw [h7]
theorem begins_st {S:List ByteArray} {n:Int} {t:TrT} (st:StG 256 S n t) (sector d:Int):beginsE (trustD S []) sector d = if t.2.2.1 = 1 then 234 else if sector≥2 ^ d.toNat then 230 else 0:=by
  rw [st.trust]
  unfold beginsE
  rw [if_neg (fun q=>by cases q)]
theorem begins_ok {S:List ByteArray} {n:Int} {t:TrT} (st:StG 256 S n t) {sector:Int} {d:Nat}:beginsE (trustD S []) sector (d:Int) = 0↔t.2.2.1≠1∧sector < 2 ^ d:=by
  rw [begins_st st]
  rw [Int.toNat_natCast]
  by_cases h1:t.2.2.1 = 1
  · rw [if_pos h1]
    constructor
    · intro h; cases h
    · intro h; exact (h.1 h1).elim
  · rw [if_neg h1]
    by_cases h2:sector≥2 ^ d
    · rw [if_pos h2]
      constructor
      · intro h; cases h
      · intro h; omega
    · rw [if_neg h2]
      exact ⟨fun _=>⟨h1,by omega⟩,fun _=>rfl⟩
theorem unl_G {o:Or} (g:G o) (k v sector:Int) (leaf:ByteArray):G (unlF k v o sector leaf).2.2∧X o (unlF k v o sector leaf).2.2∧(unlF k v o sector leaf).2.2.drawn = o.drawn:=opn_G g _ _ _ _
theorem read_G {o:Or} (g:G o) (hd:o.drawn≤900000000) (k v d:Int) (S:List ByteArray) (sector:Int) (leaf:ByteArray) (path:List Int):G (readF k v d o S sector leaf path).2∧X o (readF k v d o S sector leaf path).2∧(readF k v d o S sector leaf path).2.drawn≤o.drawn + 9∧((readF k v d o S sector leaf path).1.2≠0→(readF k v d o S sector leaf path).1.1 = ByteArray.empty):=by
  obtain ⟨g1,x1,d1⟩:=leads_G g d sector leaf path (by omega)
  obtain ⟨g2,x2,d2⟩:=unl_G g1 k v sector leaf
  unfold readF
  split
  · exact ⟨g,X.refl o,by show o.drawn≤o.drawn + 9; omega,fun _=>rfl⟩
  · split
    · exact ⟨g1,x1,d1,fun _=>rfl⟩
    · split
      · exact ⟨g1,x1,d1,fun _=>rfl⟩
      · split
        · exact ⟨g1,x1,d1,fun _=>rfl⟩
        · split
          · exact ⟨g2,x1.trans x2,by dsimp only; omega,fun _=>rfl⟩
          · exact ⟨g2,x1.trans x2,by dsimp only; omega,fun h=>(h rfl).elim⟩
theorem read_sem {o:Or} {d:Nat} {S:List ByteArray} {n:Int} {t:TrT} {cur:List ByteArray} {sector:Int} {leaf text:ByteArray} {path:List Int} (g:G o) (hd:o.drawn≤900000000) (h4:d≤4) (st:StG 256 S n t) (h:HasTree o d cur t.1) (h0:0≤sector) (hw:Shw leaf path)
    (hl:∀ i:Nat,i < 2 ^ d→(i:Int) = sector→LfOk o sector (cur.getD i ByteArray.empty) text) (hb:(readF 3 5 (d:Int) o S sector leaf path).2.bad = false) (hz:(readF 3 5 (d:Int) o S sector leaf path).1.2 = 0) :
    t.2.2.1≠1∧sector < 2 ^ d∧(readF 3 5 (d:Int) o S sector leaf path).1.1 = text:=by
  obtain ⟨tr,h⟩:=h
  obtain ⟨g1,x1,d1⟩:=leads_G g (d:Int) sector leaf path (by omega)
  unfold readF at hb hz ⊢
  by_cases hbe:beginsE (trustD S []) sector (d:Int) = 0
  · obtain ⟨k1,k2⟩:=(begins_ok st).1 hbe
    refine ⟨k1,k2,?_⟩
    rw [if_neg (fun q=>q hbe)] at hb hz ⊢
    split at hz
    · cases hz
    · rename_i hc
      rw [if_neg hc] at hb ⊢
      have hc1:(leadsF (d:Int) o sector leaf path).1.2 = true:=by
        cases hq:(leadsF (d:Int) o sector leaf path).1.2 with
        | true=>rfl
        | false=>exact (hc (.inl hq)).elim
      have hc2:(leadsF (d:Int) o sector leaf path).1.1 = t.1:=by
        by_cases hq:(leadsF (d:Int) o sector leaf path).1.1 = t.1
        · exact hq
        · exact (hc (.inr (by rw [st.trust]; exact hq))).elim
      have hbL:(leadsF (d:Int) o sector leaf path).2.bad = false:=by
        split at hb
        · exact hb
        · split at hb
          · exact hb
          · split at hb
            · exact (unl_G g1 3 5 sector leaf).2.1.ext.bad hb
            · exact (unl_G g1 3 5 sector leaf).2.1.ext.bad hb
      obtain ⟨e1,e2⟩:=leads_cur g hd h4 h h0 k2 hw hc1 hc2 hbL
      have hs:=(wrap_sec h4 h0 k2).2
      have hlf:=(hl sector.toNat hs (by omega)).ext g x1
      rw [← e1] at hlf
      by_cases hle:leaf = ByteArray.empty
      · rw [if_pos hle]
        rcases hlf with hlf | ⟨ver,ep,n,c,i,_,_,_,_,h5,_⟩
        · exact hlf.2.symm
        · rw [hle] at h5
          exact (four_ne h5.symm).elim
      · rw [if_neg hle]
        obtain ⟨r1,r2⟩:=hlf.read g1 hle
        rw [if_neg (by rw [r1]; decide),if_neg (by rw [r2]; exact fun q=>by cases q),r2]
  · rw [if_pos hbe] at hz
    exact (hbe hz).elim
theorem read_honest {o:Or} {d:Nat} {S:List ByteArray} {n:Int} {t:TrT} {cur:List ByteArray} {sector:Int} {leaf text:ByteArray} {path:List Int} {tr:List (List Int)} (g:G o) (hd:o.drawn≤900000000) (h4:d≤4) (st:StG 256 S n t) (h:HT o d cur t.1 tr) (h0:0≤sector) (h1:sector < 2 ^ d) (hp:t.2.2.1≠1)
    (hle:leaf = cur.getD sector.toNat ByteArray.empty) (hpa:path = pathT tr sector.toNat) (hl:LfOk o sector leaf text) (hb:(readF 3 5 (d:Int) o S sector leaf path).2.bad = false) :
    (readF 3 5 (d:Int) o S sector leaf path).1 = (text,0):=by
  obtain ⟨g1,x1,d1⟩:=leads_G g (d:Int) sector leaf path (by omega)
  have hbe:beginsE (trustD S []) sector (d:Int) = 0:=(begins_ok st).2 ⟨hp,h1⟩
  have hbL:(leadsF (d:Int) o sector leaf path).2.bad = false:=by
    unfold readF at hb
    rw [if_neg (fun q=>q hbe)] at hb
    split at hb
    · exact hb
    · split at hb
      · exact hb
      · split at hb
        · exact hb
        · split at hb
          · exact (unl_G g1 3 5 sector leaf).2.1.ext.bad hb
          · exact (unl_G g1 3 5 sector leaf).2.1.ext.bad hb
  have hL:=leads_honest g hd h4 h h0 h1 hle hpa hbL
  have hlf:=hl.ext g x1
  unfold readF
  rw [if_neg (fun q=>q hbe),if_neg (by rw [hL,st.trust]; rintro (q | q); cases q; exact q rfl)]
  by_cases hne:leaf = ByteArray.empty
  · rw [if_pos hne]
    rcases hlf with hlf | ⟨ver,ep,n,c,i,_,_,_,_,h5,_⟩
    · rw [hlf.2]
    · rw [hne] at h5
      exact (four_ne h5.symm).elim
  · rw [if_neg hne]
    obtain ⟨r1,r2⟩:=hlf.read g1 hne
    rw [if_neg (by rw [r1]; decide),if_neg (by rw [r2]; exact fun q=>by cases q),r2]
theorem read_forged {o:Or} {d:Nat} {S:List ByteArray} {n:Int} {t:TrT} {cur:List ByteArray} {sector:Int} {leaf:ByteArray} {path:List Int} {tr:List (List Int)} (g:G o) (hd:o.drawn≤900000000) (h4:d≤4) (st:StG 256 S n t) (h:HT o d cur t.1 tr) (h0:0≤sector) (h1:sector < 2 ^ d) (hp:t.2.2.1≠1) (hw:Shw leaf path)
    (hne:¬ (leaf = cur.getD sector.toNat ByteArray.empty∧path = pathT tr sector.toNat)) (k v:Int) (hb:(readF k v (d:Int) o S sector leaf path).2.bad = false) :
    (readF k v (d:Int) o S sector leaf path).1 = (ByteArray.empty,232):=by
  obtain ⟨g1,x1,d1⟩:=leads_G g (d:Int) sector leaf path (by omega)
  have hbe:beginsE (trustD S []) sector (d:Int) = 0:=(begins_ok st).2 ⟨hp,h1⟩
  have hbL:(leadsF (d:Int) o sector leaf path).2.bad = false:=by
    unfold readF at hb
    rw [if_neg (fun q=>q hbe)] at hb
    split at hb
    · exact hb
    · split at hb
      · exact hb
      · split at hb
        · exact hb
        · split at hb
          · exact (unl_G g1 k v sector leaf).2.1.ext.bad hb
          · exact (unl_G g1 k v sector leaf).2.1.ext.bad hb
  unfold readF
  rw [if_neg (fun q=>q hbe)]
  by_cases hc:(leadsF (d:Int) o sector leaf path).1.2 = false∨(leadsF (d:Int) o sector leaf path).1.1≠(trustD S []).1.1
  · rw [if_pos hc]
  · have hc1 : (leadsF (d : Int) o sector leaf path).1.2 = true := by
      cases hq:(leadsF (d:Int) o sector leaf path).1.2 with
      | true=>rfl
      | false=>exact (hc (.inl hq)).elim
    have hc2:(leadsF (d:Int) o sector leaf path).1.1 = t.1:=by
      by_cases hq:(leadsF (d:Int) o sector leaf path).1.1 = t.1
      · exact hq
      · exact (hc (.inr (by rw [st.trust]; exact hq))).elim
    exact (hne (leads_cur g hd h4 h h0 h1 hw hc1 hc2 hbL)).elim
end Go.Proofs.Ytljfdfghagiblaa.S2.Mk
set_option linter.unusedVariables false
set_option linter.unusedSimpArgs false
namespace Go.Proofs.Ytljfdfghagiblaa.S2.Mk
open Go Go.Proofs.Ytljfdfghagiblaa.S2
structure MkOk (o:Or) (mk:Or→Int→ByteArray×Or) (V:Int):Prop where
  g:G (mk o V).2
  x:X o (mk o V).2
  d:(mk o V).2.drawn≤o.drawn + 2
  z:(mk o V).1.size≤40
theorem seal_mk {o:Or} (g:G o) (hd:o.drawn≤900000000) (k v sector epoch:Int) (p:ByteArray) (V:Int) (hV:u64I V) (he:u64I epoch):MkOk o (sealL k v sector epoch p) V:=by
  obtain ⟨g1,x1,d1,z1⟩:=sealL_G g k v sector epoch p V hd hV he
  exact ⟨g1,x1,d1,z1⟩
theorem trim_mk {o:Or} (g:G o) (V:Int):MkOk o (fun o _=>(ByteArray.empty,o)) V:=⟨g,X.refl o,by show o.drawn≤_; omega,Nat.zero_le _⟩
abbrev verN (t:TrT):Int:=IntKind.u64.wrap (t.2.1 + 1)
structure Chg (o:Or) (d:Nat) (S:List ByteArray) (n:Int) (t:TrT) (sector:Int) (leaf:ByteArray) (path:List Int) (mk:Or→Int→ByteArray×Or) (r:(ByteArray×Int)×Or×List ByteArray):Prop where
  np:t.2.2.1≠1
  sl:sector < 2 ^ d
  lv:(leadsF (d:Int) o sector leaf path).1 = (t.1,true)
  tx:r.1.1 = (mk (leadsF (d:Int) o sector leaf path).2 (verN t)).1
  xm:X (mk (leadsF (d:Int) o sector leaf path).2 (verN t)).2 r.2.1
  st:∃ next,StG 256 r.2.2 (n + 1) (t.1,t.2.1,1,sector,next,r.1.1,())∧(r.2.1.bad = false→∀ cur tr,HT o d cur t.1 tr→cur.length = 2 ^ d→leaf = cur.getD sector.toNat ByteArray.empty∧path = pathT tr sector.toNat∧∃ tr',HT r.2.1 d (cur.set sector.toNat r.1.1) next tr'∧pathT tr' sector.toNat = path)
theorem change_sem {o:Or} {d:Nat} {S:List ByteArray} {n:Int} {t:TrT} {sector:Int} {leaf:ByteArray} {path:List Int} {mk:Or→Int→ByteArray×Or} (g:G o) (hd:o.drawn≤800000000) (h4:d≤4) (st:StG 256 S n t) (hn:n < 1000000) (hs:u64I sector) (hw:Shw leaf path)
    (hm:MkOk (leadsF (d:Int) o sector leaf path).2 mk (verN t)) :
    G (changeF (d:Int) o S sector leaf path mk).2.1∧X o (changeF (d:Int) o S sector leaf path mk).2.1∧(changeF (d:Int) o S sector leaf path mk).2.1.drawn≤o.drawn + 20 ∧
      (((changeF (d:Int) o S sector leaf path mk).1.2≠0∧(changeF (d:Int) o S sector leaf path mk).1.1 = ByteArray.empty∧(changeF (d:Int) o S sector leaf path mk).2.2 = S∧(t.2.2.1≠1→sector < 2 ^ d→(changeF (d:Int) o S sector leaf path mk).2.1 = (leadsF (d:Int) o sector leaf path).2∧((leadsF (d:Int) o sector leaf path).1 = (t.1,true)→False))) ∨
        ((changeF (d:Int) o S sector leaf path mk).1.2 = 0∧Chg o d S n t sector leaf path mk (changeF (d:Int) o S sector leaf path mk))):=by
  obtain ⟨g1,x1,d1⟩:=leads_G g (d:Int) sector leaf path (by omega)
  have htr:=st.trust
  unfold changeF
  by_cases hbe:beginsE (trustD S []) sector (d:Int) = 0
  · obtain ⟨k1,k2⟩:=(begins_ok st).1 hbe
    rw [if_neg (fun q=>q hbe)]
    split
    · rename_i hc
      refine ⟨g1,x1,by show (leadsF (d:Int) o sector leaf path).2.drawn≤_; omega,.inl ⟨by show (232:Int)≠0; decide,rfl,rfl,fun _ _=>⟨rfl,fun hh=>?_⟩⟩⟩
      rw [hh,htr] at hc
      rcases hc with hc | hc
      · cases hc
      · exact hc rfl
    · rename_i hc
      have hc1:(leadsF (d:Int) o sector leaf path).1.2 = true:=by
        cases hq:(leadsF (d:Int) o sector leaf path).1.2 with
        | true=>rfl
        | false=>exact (hc (.inl hq)).elim
      have hc2:(leadsF (d:Int) o sector leaf path).1.1 = t.1:=by
        by_cases hq:(leadsF (d:Int) o sector leaf path).1.1 = t.1
        · exact hq
        · exact (hc (.inr (by rw [htr]; exact hq))).elim
      have hok:okClimb (IntKind.i64.wrap sector) path∧(path.length:Int) = (d:Int):=by
        unfold leadsF at hc1
        split at hc1
        · rename_i h; exact ⟨h.2,h.1⟩
        · cases hc1
      obtain ⟨ws,wl⟩:=wrap_sec h4 hs.1 k2
      rw [htr]
      dsimp only
      generalize hL:leadsF (d:Int) o sector leaf path = L at *
      have hmg:=hm.g
      have hmx:=hm.x
      have hmd:=hm.d
      have hmz:=hm.z
      have hmeq:∀ m,m = mk L.2 (verN t)→mk L.2 (IntKind.u64.wrap (t.2.1 + 1)) = m:=fun m h=>h.symm
      rw [hmeq _ rfl]
      generalize hmm:mk L.2 (verN t) = m at hmg hmx hmd hmz
      rw [ws]
      obtain ⟨g2,x2,d2,u2⟩:=climbF_G hmg (s:=m.1) (i:=sector.toNat) (p:=path) hok.1.1 (by omega)
      generalize hcc:climbF m.2 m.1 sector.toNat path = c at *
      have hint:intT (t,true) sector m.1 c.1 = some (t.1,t.2.1,1,sector,c.1,m.1,()):=if_pos ⟨rfl,k1⟩
      have htk:TrOk (t.1,t.2.1,1,sector,c.1,m.1,()):=int_ok (fun _=>st.ok) hs u2 (by omega) hint
      obtain ⟨v1,v2⟩:=save_ok st.slot hn htk (.inl rfl) hmz
      rw [hint,if_pos v1]
      refine ⟨g2,x1.trans (hmx.trans x2),by show c.2.drawn≤_; omega,.inr ⟨rfl,?_⟩⟩
      refine ⟨k1,k2,by rw [hL]; exact Prod.ext hc2 hc1,by rw [hL,hmm],by rw [hL,hmm]; exact x2,c.1,v2,fun hb cur tr hT hcl=>?_⟩
      have hbL:L.2.bad = false:=hmx.ext.bad (x2.ext.bad hb)
      obtain ⟨e1,e2⟩:=leads_cur g (by omega) h4 hT hs.1 k2 hw (by rw [hL]; exact hc1) (by rw [hL]; exact hc2) (by rw [hL]; exact hbL)
      refine ⟨e1,e2,?_⟩
      have hset:=climbF_set hmg ((hT.ext x1).ext hmx) (by omega:d≤8) hcl wl (by omega) (s:=m.1)
      rw [← e2,hcc] at hset
      exact hset
  · rw [if_pos hbe]
    refine ⟨g,X.refl o,by show o.drawn≤_; omega,.inl ⟨hbe,rfl,rfl,fun q1 q2=>(hbe ((begins_ok st).2 ⟨q1,q2⟩)).elim⟩⟩
def nextT (t:TrT):TrT:=(t.2.2.2.2.1,t.2.1 + 1,0,0,0,ByteArray.empty,())
def backT (t:TrT):TrT:=(t.1,t.2.1,0,0,0,ByteArray.empty,())
theorem settle_sem {S:List ByteArray} {n:Int} {t:TrT} (st:StG 256 S n t) (hn:n < 1000000) (hp:t.2.2.1 = 1) (hv:t.2.1 < 18446744073709551615) (b:Bool) :
    settleE S b = 0∧StG 256 (doD 256 S [] (setT (trustD S []) b)).2.1 (n + 1) (if b = true then nextT t else backT t):=by
  have htr:=st.trust
  have hset:setT (t,true) b = some (if b = true then nextT t else backT t):=by
    unfold setT
    rw [if_pos ⟨rfl,by show t.2.2.1≠0; omega,fun h=>by have:=h.2; dsimp only at this; omega⟩]
    cases b <;> rfl
  have htk:=set_ok (r:=(t,true)) (fun _=>st.ok) hset
  obtain ⟨v1,v2⟩:=save_ok st.slot hn htk (may_set hset) (by cases b <;> exact Nat.zero_le _)
  unfold settleE
  rw [htr,hset,if_pos v1]
  exact ⟨rfl,v2⟩
theorem pend_st {S:List ByteArray} {n:Int} {t:TrT} (st:StG 256 S n t):pendE (trustD S []) = if t.2.2.1 = 0 then 237 else 0:=by
  rw [st.trust]
  unfold pendE
  rw [if_neg (fun q=>by cases q)]
theorem st_may {S:List ByteArray} {n:Int} {t:TrT} (st:StG 256 S n t):t.2.2.1 = 1∨t.2.2.1 = 0:=by
  rcases st.may with h | h
  · exact .inl h
  · exact .inr h.1
theorem done_sem {S:List ByteArray} {n:Int} {t:TrT} (st:StG 256 S n t) (hn:n < 1000000) (hv:t.2.1 < 18446744073709551615) :
    (t.2.2.1 = 0∧doneE S≠0∧doneS S = S)∨(t.2.2.1 = 1∧doneE S = 0∧StG 256 (doneS S) (n + 1) (nextT t)):=by
  unfold doneE doneS
  rw [pend_st st]
  rcases st_may st with h | h
  · rw [if_neg (by omega:¬ t.2.2.1 = 0),if_neg (fun q=>q rfl),if_neg (fun q=>q rfl)]
    obtain ⟨h1,h2⟩:=settle_sem st hn h hv true
    exact .inr ⟨h,h1,h2⟩
  · rw [if_pos h,if_pos (by decide),if_pos (by decide)]
    exact .inl ⟨h,by decide,rfl⟩
theorem rec_G {o:Or} (g:G o) (hd:o.drawn≤900000000) (d:Int) (S:List ByteArray) (leaf:ByteArray) (path:List Int):G (recF d o S leaf path).2.1∧X o (recF d o S leaf path).2.1∧(recF d o S leaf path).2.1.drawn≤o.drawn + 9∧((recF d o S leaf path).1.2≠0→(recF d o S leaf path).1.1 = false):=by
  unfold recF
  split
  · exact ⟨g,X.refl o,by show o.drawn≤_; omega,fun _=>rfl⟩
  · obtain ⟨g1,x1,d1⟩:=leads_G g d (trustD S []).1.2.2.2.1 leaf path (by omega)
    dsimp only
    split
    · exact ⟨g1,x1,d1,fun _=>rfl⟩
    · split
      · exact ⟨g1,x1,d1,fun _=>rfl⟩
      · exact ⟨g1,x1,d1,fun h=>(h rfl).elim⟩
theorem rec_sem {o:Or} {S:List ByteArray} {n:Int} {t:TrT} (st:StG 256 S n t) (hn:n < 1000000) (hv:t.2.1 < 18446744073709551615) (d:Int) (leaf:ByteArray) (path:List Int) :
    ((recF d o S leaf path).1.2≠0∧(recF d o S leaf path).1.1 = false∧(recF d o S leaf path).2.2 = S∧(t.2.2.1 = 1→(leadsF d o t.2.2.2.1 leaf path).1.2 = true→((leadsF d o t.2.2.2.1 leaf path).1.1 = t.2.2.2.2.1∨(leadsF d o t.2.2.2.1 leaf path).1.1 = t.1)→False)) ∨
      ((recF d o S leaf path).1.2 = 0∧t.2.2.1 = 1∧(recF d o S leaf path).1.1 = ((leadsF d o t.2.2.2.1 leaf path).1.1 == t.2.2.2.2.1)∧(recF d o S leaf path).2.1 = (leadsF d o t.2.2.2.1 leaf path).2∧StG 256 (recF d o S leaf path).2.2 (n + 1) (if (recF d o S leaf path).1.1 = true then nextT t else backT t)):=by
  unfold recF
  rw [pend_st st]
  rcases st_may st with h | h
  · rw [if_neg (by omega:¬ t.2.2.1 = 0),if_neg (fun q=>q rfl)]
    obtain ⟨h1,h2⟩:=settle_sem st hn h hv ((leadsF d o t.2.2.2.1 leaf path).1.1 == t.2.2.2.2.1)
    have htr:=st.trust
    dsimp only
    rw [htr]
    rw [htr] at h2
    dsimp only
    split
    · rename_i hc
      refine .inl ⟨by show (232:Int)≠0; decide,rfl,rfl,fun _ a b=>?_⟩
      rcases hc with hc | hc
      · rw [a] at hc; cases hc
      · exact b.elim hc.1 hc.2
    · rw [if_neg (fun q=>q h1)]
      exact .inr ⟨rfl,h,rfl,rfl,h2⟩
  · rw [if_pos h,if_pos (by decide)]
    exact .inl ⟨by show (237:Int)≠0; decide,rfl,rfl,fun q=>by omega⟩
end Go.Proofs.Ytljfdfghagiblaa.S2.Mk
set_option linter.unusedVariables false
set_option linter.unusedSimpArgs false
namespace Go.Proofs.Ytljfdfghagiblaa.S2.Mk
open Go Go.Proofs.Ytljfdfghagiblaa.S2
theorem st_D {S:List ByteArray} {n:Int} {t:TrT} (st:StG 256 S n t):DInv 256 S []:=slot_D st.slot
abbrev S0:List ByteArray:=List.replicate (2:Int).toNat (zerosB (256:Int).toNat)
def mdM (d:Int) (o:Or) (S:List ByteArray):(List Int×Int×Bool×Unit)×List (Int×Int)×List (Int×Int)×List (ByteArray×Int)×List (TagK×Int)×List (SealK×Int)×List (ToldK×Int)×List ByteArray×(Int×Int×Int×Unit)×Unit×(Int×Unit)×List ByteArray×List W2×Unit :=
  ((o.draws,o.drawn,o.bad,()),o.issued,o.met,o.hashes,o.tags,o.seals,o.opens,o.plains,(3,5,d,()),(),(256,()),S,[],())
theorem e_made {o:Or} {d:Nat} (g:G o) (hd:o.drawn≤900000000) (h4:d≤4) :
    ∃ S root,F_k38 ((d:Int),()) o.m = some (.inl ((true,()),mdM (d:Int) (buildS d [] o).2 S))∧StG 256 S 1 (resetT root)∧HasTree (buildS d [] o).2 d [] root:=by
  have hN:=S2.e_New (n:=2) (size:=256) ⟨by decide,by decide,by decide,by decide⟩
  have hS:SlotG 256 S0 0 ByteArray.empty:=slotG_new (by decide) (by decide)
  have hl2:S0.length = 2:=by rw [List.length_replicate]; rfl
  obtain ⟨S1,hS1⟩:∃ S1,S1 = S0:=⟨_,rfl⟩
  change F_k12 (2,256,()) () = some (.inr ((),((256,()),S0,[],()))) at hN
  rw [← hS1] at hN hS hl2
  have hD:DInv 256 S1 []:=slot_D hS
  have hF:=e_Format (k:=3) (v:=5) (S:=S1) g hd h4 hD
  have hHT:=build_HT (ls:=[]) (d:=d) g.wf (by omega) (by omega)
  obtain ⟨v1,v2⟩:=save_ok hS (by decide) (reset_ok (root:=rootT (buildS d [] o).1) (root_U hHT.allU)) (may_reset _) (Nat.zero_le _)
  refine ⟨(fmtF d o S1).2.2,rootT (buildS d [] o).1,?_,v2,⟨_,hHT⟩⟩
  unfold F_k38 tree_k38
  refine bindS hN ?_
  rw [Sum.elim_inr]
  have hO:=S2.e_Open (size:=256) (S:=S1) (P:=[])
  rw [if_neg (by omega)] at hO
  refine bindS hO ?_
  rw [Sum.elim_inr]
  have hG:F_k27 (3,5,(d:Int),()) ((o.draws,o.drawn,o.bad,()),(),o.issued,o.met,o.hashes,o.tags,o.seals,o.opens,o.plains,(256,()),S1,[],()) = some (.inr ((),((o.draws,o.drawn,o.bad,()),(),o.issued,o.met,o.hashes,o.tags,o.seals,o.opens,o.plains,(256,()),S1,[],(3,5,(d:Int),()),()))):=by
    rw [Fe_k27]
    unfold tree_k27
    rw [cd_f (by omega),cd_f (by omega)]
  refine bindS hG ?_
  rw [Sum.elim_inr]
  refine bindS hF ?_
  have:(fmtF d o S1).1 = true:=v1
  rw [this]
  rfl
theorem e_made_no {o:Or} {d:Int} (hd:¬ (0≤d∧d≤4)):F_k38 (d,()) o.m = some (.inr ((),o.m)):=by
  have hN:=S2.e_New (n:=2) (size:=256) ⟨by decide,by decide,by decide,by decide⟩
  have hl2:S0.length = 2:=by rw [List.length_replicate]; rfl
  obtain ⟨S1,hS1⟩:∃ S1,S1 = S0:=⟨_,rfl⟩
  change F_k12 (2,256,()) () = some (.inr ((),((256,()),S0,[],()))) at hN
  rw [← hS1] at hN hl2
  unfold F_k38 tree_k38
  refine bindS hN ?_
  rw [Sum.elim_inr]
  have hO:=S2.e_Open (size:=256) (S:=S1) (P:=[])
  rw [if_neg (by omega)] at hO
  refine bindS hO ?_
  rw [Sum.elim_inr]
  have hG:F_k27 (3,5,d,()) ((o.draws,o.drawn,o.bad,()),(),o.issued,o.met,o.hashes,o.tags,o.seals,o.opens,o.plains,(256,()),S1,[],()) = some (.inl ((),((o.draws,o.drawn,o.bad,()),(),o.issued,o.met,o.hashes,o.tags,o.seals,o.opens,o.plains,(256,()),S1,[],()))):=by
    rw [Fe_k27]
    unfold tree_k27
    by_cases h0:d < 0
    · rw [cd_t h0]
    · rw [cd_f h0,cd_t (by omega)]
  refine bindS hG ?_
  rfl
abbrev Mdl:=Bool×Int×ByteArray×ByteArray×Unit
def acI (d:Int) (o:Or) (S now:List ByteArray) (old:List (List ByteArray)) (m:Mdl) (texts:List ByteArray):M_k36 :=
  ((3,5,d,()),(256,()),(o.draws,o.drawn,o.bad,()),(d,now,()),m,(),S,[],o.issued,o.met,o.hashes,o.tags,o.seals,o.opens,o.plains,old,texts,())
def acO (d:Int) (o:Or) (S now:List ByteArray) (old:List (List ByteArray)) (m:Mdl) (texts:List ByteArray):(Int×Int×Int×Unit)×(Int×Unit)×(List Int×Int×Bool×Unit)×(Int×List ByteArray×Unit)×Mdl×Unit×List ByteArray×Unit×List (Int×Int)×List (Int×Int)×List (ByteArray×Int)×List (TagK×Int)×List (SealK×Int)×List (ToldK×Int)×Unit×Unit×List ByteArray×List W2×List ByteArray×List (List ByteArray)×Unit :=
  ((3,5,d,()),(256,()),(o.draws,o.drawn,o.bad,()),(d,now,()),m,(),S,(),o.issued,o.met,o.hashes,o.tags,o.seals,o.opens,(),(),texts,[],o.plains,old,())
end Go.Proofs.Ytljfdfghagiblaa.S2.Mk
set_option linter.unusedVariables false
set_option linter.unusedSimpArgs false
namespace Go.Proofs.Ytljfdfghagiblaa.S2.Mk
open Go Go.Proofs.Ytljfdfghagiblaa.S2
structure Fr (o:Or):Prop where
  dr:o.draws = []
  nb:o.bad = false
  is:∀ h,0 < isd o h→9223372036854775808≤h∧h < 9223372036854775808 + o.drawn
  mt:∀ h,0 < mget eqI 0 h o.met→h < 9223372036854775808
theorem fr_new:Fr (Or.new []):=by
  refine ⟨rfl,rfl,?_,?_⟩
  · intro h hh
    have hh:(0:Int) < 0:=hh
    omega
  · intro h hh
    have hh:(0:Int) < 0:=hh
    omega
theorem fresh_Fr {o:Or} (g:G o) (f:Fr o) (hd:o.drawn < 4611686018427387905):Fr o.fresh.2:=by
  have h0:=g.wf.d0
  have hn:nextD o.draws o.drawn = 9223372036854775808 + o.drawn:=by
    unfold nextD
    rw [f.dr,if_neg (by simp; omega),u64id (n:=o.drawn) (by omega) (by omega),u64id (by omega) (by omega)]
  have hget:=fresh_get g.wf hd
  have hdr:=fresh_dr g.wf hd
  refine ⟨f.dr,?_,?_,f.mt⟩
  · show (o.bad || o.clash (nextD o.draws o.drawn)) = false
    rw [f.nb,Bool.false_or,hn]
    unfold Or.clash
    rw [Bool.or_eq_false_iff,Bool.or_eq_false_iff]
    refine ⟨beq_false_of_ne (by omega),decide_eq_false fun q=>?_,decide_eq_false fun q=>?_⟩
    · have:=f.is _ q; omega
    · have:=f.mt _ q; omega
  · intro h hh
    rw [hget,hn] at hh
    rw [hdr]
    split at hh
    · rename_i e; omega
    · have:=f.is h hh; omega
theorem hash_Fr {o:Or} (g:G o) (f:Fr o) (t:ByteArray) (hd:o.drawn < 4611686018427387905):Fr (o.hash t).2:=by
  unfold Or.hash
  split
  · exact f
  · have f1:=fresh_Fr g f hd
    exact ⟨f1.dr,f1.nb,f1.is,f1.mt⟩
theorem meet_Fr {o:Or} (f:Fr o) {h:Int} (hh:0 < isd o h∨h < 9223372036854775808):Fr (o.meet h):=by
  unfold Or.meet
  split
  · rename_i e
    refine ⟨f.dr,f.nb,f.is,fun x hx=>?_⟩
    have hx:0 < mget eqI 0 x (mput eqI h 1 o.met):=hx
    rw [mget_mput eqI_l (κ:=Int)] at hx
    split at hx
    · rename_i e2
      rcases hh with hh | hh
      · unfold isd at hh; omega
      · omega
    · exact f.mt x hx
  · exact f
theorem seal_Fr {o:Or} (g:G o) (f:Fr o) (k n:Int) (a p:ByteArray) (hd:o.drawn < 4611686018427387905):Fr (o.seal k n a p).2:=by
  unfold Or.seal
  split
  · exact f
  · have f1:=fresh_Fr g f hd
    exact ⟨f1.dr,f1.nb,f1.is,f1.mt⟩
theorem lock_Fr {o:Or} (g:G o) (f:Fr o) (key volume sector version epoch:Int) (p:ByteArray) (hd:o.drawn < 4611686018427387000):Fr (o.lock key volume sector version epoch p).2.2 :=
  seal_Fr (fresh_G g (by omega)).1 (fresh_Fr g f (by omega)) _ _ _ _ (by rw [fresh_dr g.wf (by omega)]; omega)
theorem hashAll_Fr:∀ (l:List ByteArray) {o:Or},G o→Fr o→o.drawn + l.length≤4611686018427387000→Fr (hashAll l o).2
  | [],o,g,f,_=>f
  | t :: l,o,g,f,hb=>by
    simp only [List.length_cons] at hb
    have d1:=(hash_wf g.wf t (by omega)).2.2.1
    exact hashAll_Fr l (hash_G g t (by omega)).1 (hash_Fr g f t (by omega)) (by omega)
theorem tree_Fr:∀ (d:Nat) (l:List Int) {o:Or},G o→Fr o→l.length = 2 ^ d→o.drawn + 2 ^ d≤4611686018427387000→Fr (treeS d l o).2
  | 0,l,o,g,f,_,_=>f
  | d + 1,l,o,g,f,hl,hb=>by
    have hp:(2:Int) ^ (d + 1) = 2 ^ d + 2 ^ d:=by rw [Int.pow_succ]; omega
    have hpn:(2:Nat) ^ (d + 1) = 2 ^ d + 2 ^ d:=by rw [Nat.pow_succ]; omega
    have hcast:((2 ^ d:Nat):Int) = 2 ^ d:=by simp
    have ht:(texts l).length = 2 ^ d:=by rw [texts_len,hl]; omega
    have d1:=(hashAll_wf (texts l) g.wf (by rw [ht]; omega)).2.2.1
    rw [ht] at d1
    exact tree_Fr d (hashAll (texts l) o).1 (hashAll_G (texts l) g (by rw [ht]; omega)).1 (hashAll_Fr (texts l) g f (by rw [ht]; omega)) (by rw [hashAll_len,ht]) (by omega)
theorem build_Fr {d:Nat} {ls:List ByteArray} {o:Or} (g:G o) (f:Fr o) (h8:d≤8) (hd:o.drawn≤3000000000000000000):Fr (buildS d ls o).2:=by
  have hsmall:2 ^ d≤2 ^ 8:=Nat.pow_le_pow_right (by decide) h8
  have hcast:(2:Int) ^ d = ((2 ^ d:Nat):Int):=by simp
  have d1:=(hashAll_wf (leafTs ls 0 (2 ^ d)) g.wf (by rw [leafTs_len]; omega)).2.2.1
  rw [leafTs_len] at d1
  exact tree_Fr d (hashAll (leafTs ls 0 (2 ^ d)) o).1 (hashAll_G _ g (by rw [leafTs_len]; omega)).1 (hashAll_Fr _ g f (by rw [leafTs_len]; omega)) (by rw [hashAll_len,leafTs_len]) (by omega)
theorem climb_Fr:∀ (p:List Int) (h:Int) (i:Nat) {o:Or},G o→Fr o→o.drawn + p.length≤4611686018427387000→Fr (climbS h i p o).2
  | [],h,i,o,g,f,_=>f
  | b :: p,h,i,o,g,f,hb=>by
    simp only [List.length_cons] at hb
    have d1:=(hash_wf g.wf (joinT h b i) (by omega)).2.2.1
    exact climb_Fr p (o.hash (joinT h b i)).1 (i / 2) (hash_G g _ (by omega)).1 (hash_Fr g f _ (by omega)) (by omega)
theorem climbF_Fr {o:Or} (g:G o) (f:Fr o) {s:ByteArray} {i:Nat} {p:List Int} (hp:p.length≤8) (hd:o.drawn≤4000000000000000000):Fr (climbF o s i p).2:=by
  have d4:=(hash_wf g.wf (leafT s) (by omega)).2.2.1
  exact climb_Fr p _ i (hash_G g (leafT s) (by omega)).1 (hash_Fr g f (leafT s) (by omega)) (by omega)
theorem meets_Fr:∀ (p:List Int) {o:Or},G o→Fr o→(∀ x∈p,0 < isd o x∨x < 9223372036854775808)→Fr (meets o p)
  | [],o,g,f,_=>f
  | h :: p,o,g,f,hp=>by
    obtain ⟨g1,x1⟩:=meet_G g h
    exact meets_Fr p g1 (meet_Fr f (hp h List.mem_cons_self)) fun x hx=>(hp x (List.mem_cons_of_mem _ hx)).imp (fun q=>Int.lt_of_lt_of_le q (x1.iss x)) id
theorem parL_empty:(parL ByteArray.empty).2 = false:=by
  unfold parL
  rw [if_neg]
  intro h
  have h1:=h.1.1
  have:(takS ByteArray.empty).2.2 = false:=by
    unfold takS
    rfl
  have e:(q1 ByteArray.empty) = takS ByteArray.empty:=rfl
  rw [e,this] at h1
  cases h1
def Known (o:Or) (leaf:ByteArray):Prop:=(parL leaf).2 = true→0 < isd o (parL leaf).1.2.2.1∧0 < isd o (parL leaf).1.2.2.2.1
theorem known_empty (o:Or):Known o ByteArray.empty:=fun h=>by rw [parL_empty] at h; cases h
theorem known_lf {o:Or} {s:Int} {leaf text:ByteArray} (h:LfOk o s leaf text):Known o leaf:=by
  rcases h with h | ⟨ver,ep,n,c,i,h1,h2,h3,h4,h5,h6,h7,h8,h9⟩
  · rw [h.1]; exact known_empty o
  · intro _
    rw [h5,par_four h1 h2 h3 h4]
    exact ⟨h8,h9⟩
theorem Known.ext {o o':Or} {leaf:ByteArray} (h:Known o leaf) (x:X o o'):Known o' leaf:=fun q=>⟨Int.lt_of_lt_of_le (h q).1 (x.iss _),Int.lt_of_lt_of_le (h q).2 (x.iss _)⟩
theorem looks_Fr {o:Or} (g:G o) (f:Fr o) {leaf:ByteArray} {path:List Int} (hk:Known o leaf) (hp:∀ x∈path,0 < isd o x∨x < 9223372036854775808):Fr (looks o leaf path):=by
  obtain ⟨g1,x1,d1⟩:=meets_G path g
  have f1:=meets_Fr path g f hp
  unfold looks
  split
  · rename_i hq
    obtain ⟨k1,k2⟩:=(hk.ext x1) hq
    obtain ⟨g2,x2⟩:=meet_G g1 (parL leaf).1.2.2.1
    exact meet_Fr (meet_Fr f1 (.inl k1)) (.inl (Int.lt_of_lt_of_le k2 (x2.iss _)))
  · exact f1
theorem leads_Fr {o:Or} (g:G o) (f:Fr o) (hd:o.drawn≤3000000000000000000) {d sector:Int} {leaf:ByteArray} {path:List Int} (hk:Known o leaf) (hp:∀ x∈path,0 < isd o x∨x < 9223372036854775808):Fr (leadsF d o sector leaf path).2:=by
  obtain ⟨g1,x1,d1⟩:=looks_G g leaf path
  have f1:=looks_Fr g f hk hp
  unfold leadsF
  split
  · rename_i h
    exact climbF_Fr g1 f1 h.2.1 (by omega)
  · exact f1
theorem opn_Fr {o:Or} (f:Fr o) {k n c:Int} {a:ByteArray} (hc:0 < isd o c):Fr (o.opn k n a c).2.2:=by
  unfold Or.opn
  split
  · exact f
  · exact meet_Fr f (.inl hc)
theorem read_Fr {o:Or} (g:G o) (f:Fr o) (hd:o.drawn≤900000000) {k v d:Int} {S:List ByteArray} {sector:Int} {leaf:ByteArray} {path:List Int} (hk:Known o leaf) (hp:∀ x∈path,0 < isd o x∨x < 9223372036854775808):Fr (readF k v d o S sector leaf path).2:=by
  have f1:=leads_Fr (d:=d) (sector:=sector) g f (by omega) hk hp
  have x1:=(leads_G g d sector leaf path (by omega)).2.1
  unfold readF
  split
  · exact f
  · split
    · exact f1
    · split
      · exact f1
      · split
        · exact f1
        · rename_i hq
          have hq:(parL leaf).2 = true:=by
            cases h:(parL leaf).2 with
            | true=>rfl
            | false=>exact (hq h).elim
          have:Fr (unlF k v (leadsF d o sector leaf path).2 sector leaf).2.2:=opn_Fr f1 ((hk.ext x1) hq).2
          split
          · exact this
          · exact this
theorem change_Fr {o:Or} (g:G o) (f:Fr o) (hd:o.drawn≤800000000) {d:Int} {S:List ByteArray} {sector:Int} {leaf:ByteArray} {path:List Int} {mk:Or→Int→ByteArray×Or} (hk:Known o leaf) (hp:∀ x∈path,0 < isd o x∨x < 9223372036854775808)
    (hm:∀ o1 V,G o1→Fr o1→o1.drawn≤900000000→u64I V→MkOk o1 mk V∧Fr (mk o1 V).2):Fr (changeF d o S sector leaf path mk).2.1:=by
  have f1:=leads_Fr (d:=d) (sector:=sector) g f (by omega) hk hp
  obtain ⟨g1,x1,d1⟩:=leads_G g d sector leaf path (by omega)
  unfold changeF
  split
  · exact f
  · split
    · exact f1
    · rename_i hc
      have hc1:(leadsF d o sector leaf path).1.2 = true:=by
        cases hq:(leadsF d o sector leaf path).1.2 with
        | true=>rfl
        | false=>exact (hc (.inl hq)).elim
      have hok:path.length≤8:=by
        unfold leadsF at hc1
        split at hc1
        · rename_i h; exact h.2.1
        · cases hc1
      dsimp only
      obtain ⟨m1,m2⟩:=hm _ (IntKind.u64.wrap ((trustD S []).1.2.1 + 1)) g1 f1 (by omega) (u64_wrap _)
      have:=climbF_Fr m1.g m2 (s:=(mk (leadsF d o sector leaf path).2 (IntKind.u64.wrap ((trustD S []).1.2.1 + 1))).1) (i:=(IntKind.i64.wrap sector).toNat) (p:=path) hok (by have:=m1.d; omega)
      split
      · exact this
      · exact this
theorem seal_mkFr (k v sector epoch:Int) (p:ByteArray) (he:u64I epoch):∀ o1 V,G o1→Fr o1→o1.drawn≤900000000→u64I V→MkOk o1 (sealL k v sector epoch p) V∧Fr (sealL k v sector epoch p o1 V).2 :=
  fun o1 V g f hd hV=>⟨seal_mk g hd k v sector epoch p V hV he,lock_Fr g f _ _ _ _ _ _ (by omega)⟩
theorem path_isd {o:Or} (w:Wf o):∀ (tr:List (List Int)) (i:Nat),TreeT o.tab tr→i < (tr.headD []).length→(∀ j,j < (tr.headD []).length→0 < isd o ((tr.headD []).getD j 0))→∀ x∈pathT tr i,0 < isd o x
  | [],i,ht,_,_,x,hx=>ht.elim
  | [l],i,ht,_,_,x,hx=>by cases hx
  | l :: l' :: r,i,ht,hi,hh,x,hx=>by
    obtain ⟨h1,h2,h3⟩:=ht
    simp only [List.headD_cons] at hi hh
    simp only [pathT,List.mem_cons] at hx
    rcases hx with rfl | hx
    · refine hh _ ?_
      unfold sib
      split <;> omega
    · exact path_isd w (l' :: r) (i / 2) h3 (by simp only [List.headD_cons]; omega) (fun j hj=>(w.val _ _ (h2 j hj)).2) x hx
theorem HT.isd {o:Or} {d:Nat} {ls:List ByteArray} {root:Int} {tr:List (List Int)} (w:Wf o) (h:HT o d ls root tr) {i:Nat} (hi:i < 2 ^ d):∀ x∈pathT tr i,0 < Mk.isd o x :=
  path_isd w tr i h.tree (by rw [h.hl]; exact hi) fun j hj=>(w.val _ _ (h.lf j (by rw [← h.hl]; exact hj))).2
end Go.Proofs.Ytljfdfghagiblaa.S2.Mk
set_option linter.unusedVariables false
set_option linter.unusedSimpArgs false
namespace Go.Proofs.Ytljfdfghagiblaa.S2.Mk
open Go Go.Proofs.Ytljfdfghagiblaa.S2
theorem HT.cg {o:Or} {d:Nat} {ls ms:List ByteArray} {root:Int} {tr:List (List Int)} (h:HT o d ls root tr) (e:∀ i,i < 2 ^ d→ls.getD i ByteArray.empty = ms.getD i ByteArray.empty):HT o d ms root tr :=
  ⟨h.tree,h.allU,h.len,h.hl,fun i hi=>by rw [← e i hi]; exact h.lf i hi,h.rt⟩
theorem getD_rep (n i:Nat):(List.replicate n ByteArray.empty).getD i ByteArray.empty = ByteArray.empty:=by
  rw [List.getD_eq_getElem?_getD]
  by_cases h:i < n
  · rw [List.getElem?_eq_getElem (by simpa using h)]; simp
  · rw [List.getElem?_eq_none (by simpa using Nat.le_of_not_lt h)]; rfl
theorem seal_lf {o:Or} (g:G o) (hd:o.drawn≤900000000) {sector epoch V:Int} {p:ByteArray} (hV:u64I V) (he:u64I epoch) (hb:(sealL 3 5 sector epoch p o V).2.bad = false) :
    LfOk (sealL 3 5 sector epoch p o V).2 sector (sealL 3 5 sector epoch p o V).1 p∧∀ s' t',¬ LfOk o s' (sealL 3 5 sector epoch p o V).1 t':=by
  obtain ⟨g1,x1,u1,u2,d1,i1,i2,h⟩:=lock_G g 3 5 sector V epoch p (by omega)
  obtain ⟨h1,i,h2,h3⟩:=h hb
  refine ⟨.inr ⟨V,epoch,_,_,i,hV,he,u1,u2,rfl,h2,h3,i1,i2⟩,fun s' t' hl=>?_⟩
  rcases hl with hl | ⟨ver,ep,n,c,i,k1,k2,k3,k4,k5,k6,k7,k8,k9⟩
  · exact four_ne hl.1
  · have e1:=par_four (a:=V) (b:=epoch) (c:=(o.lock 3 5 sector V epoch p).1) (d:=(o.lock 3 5 sector V epoch p).2.1) hV he u1 u2
    have e2:=par_four k1 k2 k3 k4
    have k5:fourB V epoch (o.lock 3 5 sector V epoch p).1 (o.lock 3 5 sector V epoch p).2.1 = fourB ver ep n c:=k5
    rw [k5,e2] at e1
    have e3:=congrArg (fun x=>x.1.2.2.1) e1
    dsimp only at e3
    rw [e3] at k8
    omega
structure Wrt (o:Or) (d:Nat) (n:Int) (t:TrT) (cur:List ByteArray) (sector:Int) (p:ByteArray) (path:List Int) (r:(ByteArray×Int)×Or×List ByteArray):Prop where
  ok:r.1.2 = 0
  g:G r.2.1
  x:X o r.2.1
  dr:r.2.1.drawn≤o.drawn + 20
  st:∃ next tr',StG 256 r.2.2 (n + 1) (t.1,t.2.1,1,sector,next,r.1.1,())∧HT r.2.1 d (cur.set sector.toNat r.1.1) next tr'∧pathT tr' sector.toNat = path
  lf:LfOk r.2.1 sector r.1.1 p
  nw:∀ s' t',¬ LfOk o s' r.1.1 t'
  sz:r.1.1.size≤40
theorem write_honest {o:Or} {d:Nat} {S:List ByteArray} {n:Int} {t:TrT} {cur:List ByteArray} {sector epoch:Int} {p leaf:ByteArray} {path:List Int} {tr:List (List Int)} (g:G o) (hd:o.drawn≤800000000) (h4:d≤4) (st:StG 256 S n t) (hn:n < 1000000) (h:HT o d cur t.1 tr) (hc:cur.length = 2 ^ d) (hs:u64I sector) (h1:sector < 2 ^ d) (hp:t.2.2.1≠1) (he:u64I epoch) (hps:p.size≤4096)
    (hw:Shw leaf path) (hle:leaf = cur.getD sector.toNat ByteArray.empty) (hpa:path = pathT tr sector.toNat) (hb:(writeF 3 5 (d:Int) o S sector epoch p leaf path).2.1.bad = false):Wrt o d n t cur sector p path (writeF 3 5 (d:Int) o S sector epoch p leaf path):=by
  have hwf:writeF 3 5 (d:Int) o S sector epoch p leaf path = changeF (d:Int) o S sector leaf path (sealL 3 5 sector epoch p):=if_neg (fun q=>by have:=q.2; omega)
  rw [hwf] at hb ⊢
  obtain ⟨g1,x1,d1⟩:=leads_G g (d:Int) sector leaf path (by omega)
  have hm:=seal_mk g1 (by omega) 3 5 sector epoch p (verN t) (u64_wrap _) he
  obtain ⟨c1,c2,c3,c4⟩:=change_sem g hd h4 st hn hs hw hm
  rcases c4 with c4 | ⟨c4,c5⟩
  · obtain ⟨q1,q2⟩:=c4.2.2.2 hp h1
    rw [q1] at hb
    exact (q2 (leads_honest g (by omega) h4 h hs.1 h1 hle hpa hb)).elim
  · generalize changeF (d:Int) o S sector leaf path (sealL 3 5 sector epoch p) = r at *
    obtain ⟨next,s1,s2⟩:=c5.st
    obtain ⟨e1,e2,tr',e3,e4⟩:=s2 hb cur tr h hc
    have hbm:=c5.xm.ext.bad hb
    obtain ⟨l1,l2⟩:=seal_lf g1 (by omega) (sector:=sector) (p:=p) (u64_wrap (t.2.1 + 1)) he hbm
    have ht:=c5.tx
    have hl1:=l1.ext hm.g c5.xm
    refine ⟨c4,c1,c2,c3,⟨next,tr',s1,e3,e4⟩,by rw [ht]; exact hl1,fun s' t' q=>?_,by rw [ht]; exact hm.z⟩
    rw [ht] at q
    exact l2 s' t' (q.ext g x1)
end Go.Proofs.Ytljfdfghagiblaa.S2.Mk
set_option linter.unusedVariables false
set_option linter.unusedSimpArgs false
namespace Go.Proofs.Ytljfdfghagiblaa.S2.Mk
open Go Go.Proofs.Ytljfdfghagiblaa.S2
abbrev txHi:ByteArray:=ByteArray.mk #[104,105]
abbrev cur2:List ByteArray:=[ByteArray.empty,ByteArray.empty]
theorem e_fixed23:F_k37 () () = some (true,()):=by
  have hz:∀ x:Int,x∈([]:List Int)→U x:=fun x hx=>by cases hx
  have g0:=new_G hz
  have f0:=fr_new
  have d0:(Or.new []).drawn = 0:=rfl
  have hN:=e_New (draws:=[]) (by simp)
  obtain ⟨S,root,hM,st,hT⟩:=e_made (d:=1) g0 (by rw [d0]; decide) (by decide)
  obtain ⟨g1,x1⟩:=build_G (d:=1) (ls:=[]) g0 (by decide) (by rw [d0]; decide)
  have f1:=build_Fr (d:=1) (ls:=[]) g0 f0 (by decide) (by rw [d0]; decide)
  have d1:=(build_wf (d:=1) (ls:=[]) g0.wf (by decide) (by rw [d0]; decide)).2.2.1
  rw [d0] at d1
  generalize (buildS 1 [] (Or.new [])).2 = o1 at *
  have hB:=(e_Build (o:=o1) (d:=1) (ls:=[]) g1.wf (by omega) (by intro s hs; cases hs)).1 ⟨by decide,by decide,by decide⟩
  obtain ⟨g2,x2⟩:=build_G (d:=1) (ls:=[]) g1 (by decide) (by omega)
  have f2:=build_Fr (d:=1) (ls:=[]) g1 f1 (by decide) (by omega)
  have bw:=build_wf (d:=1) (ls:=[]) g1.wf (by decide) (by omega)
  have d2:=bw.2.2.1
  have hT2:=build_HT (d:=1) (ls:=[]) g1.wf (by decide) (by omega)
  have hP:=e_Path (shp_of_tree hT2.tree) (by rw [hT2.len]; decide) 0
  rw [if_pos ⟨by decide,by rw [hT2.hl]; decide⟩] at hP
  rw [show (1:Int).toNat = 1 from rfl] at hB
  rw [show (0:Int).toNat = 0 from rfl] at hP
  generalize htr:(buildS 1 [] o1).1 = tr at *
  generalize (buildS 1 [] o1).2 = o2 at *
  obtain ⟨tr0,hT0⟩:=hT
  have hroot:rootT tr = root:=((hT2).same g2.wf f2.nb (hT0.ext x2)).2 fun i _=>rfl
  have hTc:HT o2 1 cur2 root tr:=by
    have:=hT2.cg (ms:=cur2) (fun i hi=>by
      have:i = 0∨i = 1:=by omega
      rcases this with rfl | rfl <;> rfl)
    rw [hroot] at this
    exact this
  have hpI:∀ x∈pathT tr 0,0 < isd o2 x:=hTc.isd g2.wf (by decide)
  have hpU:=path_U hTc.allU 0
  have hpl:(pathT tr 0).length = 1:=by rw [path_len,hTc.len]
  have hsz:ByteArray.empty.size≤140737488355328:=Nat.zero_le _
  have hw0:Shw ByteArray.empty (pathT tr 0):=⟨hsz,hpU,by rw [hpl]; decide⟩
  have hw1:Shw ByteArray.empty [1]:=⟨hsz,fun x hx=>by rw [List.mem_singleton] at hx; rw [hx]; exact ⟨by decide,by decide⟩,by decide⟩
  have hu0:u64I 0:=⟨by decide,by decide⟩
  have hu5:u64I 5:=⟨by decide,by decide⟩
  have hlf0:LfOk o2 0 ByteArray.empty ByteArray.empty:=.inl ⟨rfl,rfl⟩
  have rt:(resetT root).1 = root:=rfl
  -- the first read
  have hR1:=e_Read (k:=3) (v:=5) (d:=1) (sector:=0) (S:=S) g2 (by omega) hw0 (by decide) (by decide) (st_D st) hu5 hu0
  obtain ⟨g3,x3,d3,_⟩:=read_G g2 (by omega) 3 5 1 S 0 ByteArray.empty (pathT tr 0)
  have f3:=read_Fr (k:=3) (v:=5) (d:=1) (S:=S) (sector:=0) g2 f2 (by omega) (known_empty o2) (fun x hx=>.inl (hpI x hx))
  have e1:(readF 3 5 1 o2 S 0 ByteArray.empty (pathT tr 0)).1 = (ByteArray.empty,0):=read_honest (d:=1) g2 (by omega) (by decide) st hTc (by decide) (by decide:(0:Int) < 2 ^ 1) (show (0:Int)≠1 by decide) rfl rfl hlf0 f3.nb
  generalize hr3:readF 3 5 1 o2 S 0 ByteArray.empty (pathT tr 0) = r3 at *
  -- the second
  have hR2:=e_Read (k:=3) (v:=5) (d:=1) (sector:=0) (S:=S) g3 (by omega) hw1 (by decide) (by decide) (st_D st) hu5 hu0
  obtain ⟨g4,x4,d4,_⟩:=read_G g3 (by omega) 3 5 1 S 0 ByteArray.empty [1]
  have f4:=read_Fr (k:=3) (v:=5) (d:=1) (S:=S) (sector:=0) g3 f3 (by omega) (known_empty r3.2) (path:=[1]) (fun x hx=>.inr (by rw [List.mem_singleton] at hx; rw [hx]; decide))
  have e2:(readF 3 5 1 r3.2 S 0 ByteArray.empty [1]).1 = (ByteArray.empty,232):=read_forged (d:=1) g3 (by omega) (by decide) st (hTc.ext x3) (by decide) (by decide:(0:Int) < 2 ^ 1) (show (0:Int)≠1 by decide) hw1 (fun q=>by
    have hq:=q.2
    have h1:(1:Int)∈pathT tr (0:Int).toNat:=by rw [← hq]; exact List.mem_cons_self
    have:=f2.is 1 (hpI 1 h1)
    omega) 3 5 f4.nb
  generalize hr4:readF 3 5 1 r3.2 S 0 ByteArray.empty [1] = r4 at *
  -- the third
  have hR3:=e_Read (k:=3) (v:=5) (d:=1) (sector:=2) (S:=S) g4 (by omega) hw0 (by decide) (by decide) (st_D st) hu5 ⟨by decide,by decide⟩
  have hbb:beginsE (trustD S []) 2 1 = 230:=by rw [begins_st st]; rfl
  have e3:readF 3 5 1 r4.2 S 2 ByteArray.empty (pathT tr 0) = ((ByteArray.empty,230),r4.2):=by
    unfold readF
    rw [hbb,if_pos (by decide)]
  rw [e3] at hR3
  -- the write
  have hW:=e_Write (k:=3) (v:=5) (d:=1) (sector:=0) (epoch:=0) (p:=txHi) (S:=S) g4 (by omega) hw0 (by decide) (by decide) (st_D st) hu5 hu0 hu0
  have fW:Fr (writeF 3 5 1 r4.2 S 0 0 txHi ByteArray.empty (pathT tr 0)).2.1:=by
    have:writeF 3 5 1 r4.2 S 0 0 txHi ByteArray.empty (pathT tr 0) = changeF 1 r4.2 S 0 ByteArray.empty (pathT tr 0) (sealL 3 5 0 0 txHi):=if_neg (fun q=>absurd q.2 (by decide))
    rw [this]
    exact change_Fr g4 f4 (by omega) (known_empty _) (fun x hx=>.inl (Int.lt_of_lt_of_le (hpI x hx) (Int.le_trans (x3.iss x) (x4.iss x)))) (seal_mkFr 3 5 0 0 txHi hu0)
  have w:Wrt r4.2 1 1 (resetT root) cur2 0 txHi (pathT tr 0) (writeF 3 5 1 r4.2 S 0 0 txHi ByteArray.empty (pathT tr 0)):=write_honest (d:=1) (epoch:=0) (p:=txHi) g4 (by omega) (by decide) st (by decide) ((hTc.ext x3).ext x4) rfl hu0 (by decide:(0:Int) < 2 ^ 1) (show (0:Int)≠1 by decide) hu0 (by decide) hw0 rfl rfl fW.nb
  generalize hr6:writeF 3 5 1 r4.2 S 0 0 txHi ByteArray.empty (pathT tr 0) = r6 at *
  obtain ⟨next,tr6,st6,hT6,hp6⟩:=w.st
  have g6:=w.g
  have d6:=w.dr
  -- a read while it is pending
  have hR4:=e_Read (k:=3) (v:=5) (d:=1) (sector:=0) (S:=r6.2.2) g6 (by omega) hw0 (by decide) (by decide) (st_D st6) hu5 hu0
  have e4:readF 3 5 1 r6.2.1 r6.2.2 0 ByteArray.empty (pathT tr 0) = ((ByteArray.empty,234),r6.2.1):=by
    unfold readF
    rw [begins_st st6,if_pos rfl,if_pos (show (234:Int)≠0 by decide)]
  rw [e4] at hR4
  -- done
  have hD:=e_Done r6.2.1 (k:=3) (v:=5) (d:=1) (st_D st6)
  rcases done_sem st6 (by decide) (show (0:Int) < 18446744073709551615 by decide) with q | ⟨q1,q2,st8⟩
  · exact absurd (show (1:Int) = 0 from q.1) (by decide)
  -- the last read
  have hwl:Shw r6.1.1 (pathT tr 0):=⟨by have:=w.sz; omega,hpU,by rw [hpl]; decide⟩
  have hR5:=e_Read (k:=3) (v:=5) (d:=1) (sector:=0) (S:=doneS r6.2.2) g6 (by omega) hwl (by decide) (by decide) (st_D st8) hu5 hu0
  have f9:=read_Fr (k:=3) (v:=5) (d:=1) (S:=doneS r6.2.2) (sector:=0) g6 fW (by omega) (known_lf w.lf) (path:=pathT tr 0) (fun x hx=>.inl (Int.lt_of_lt_of_le (hpI x hx) (Int.le_trans (x3.iss x) (Int.le_trans (x4.iss x) (w.x.iss x)))))
  have e5:(readF 3 5 1 r6.2.1 (doneS r6.2.2) 0 r6.1.1 (pathT tr 0)).1 = (txHi,0):=read_honest (d:=1) g6 (by omega) (by decide) st8 hT6 (by decide) (by decide:(0:Int) < 2 ^ 1) (show (0:Int)≠1 by decide) (by rfl) hp6.symm w.lf f9.nb
  generalize hr9:readF 3 5 1 r6.2.1 (doneS r6.2.2) 0 r6.1.1 (pathT tr 0) = r9 at *
  unfold F_k37 tree_k37
  refine bindS hN ?_
  refine bindS hM ?_
  rw [Sum.elim_inl]
  refine (c_f rfl).trans ?_
  refine bindS hB ?_
  refine bindS hP ?_
  refine bindS hR1 ?_
  refine bindS hR2 ?_
  refine bindS hR3 ?_
  refine bindS hW ?_
  refine bindS hR4 ?_
  refine bindS hD ?_
  refine bindS hR5 ?_
  refine (c_t rfl).trans ?_
  refine (c_t (by rw [e1]; exact bytes_self _)).trans ?_
  refine (c_t (by rw [e1]; rfl)).trans ?_
  refine (c_t (by rw [e2]; rfl)).trans ?_
  refine (c_t rfl).trans ?_
  refine (c_t (by rw [w.ok]; rfl)).trans ?_
  refine (c_t rfl).trans ?_
  refine (c_t (by rw [q2]; rfl)).trans ?_
  refine (c_t (by rw [e5]; exact bytes_self _)).trans ?_
  rw [e5]
  rfl
end Go.Proofs.Ytljfdfghagiblaa.S2.Mk
