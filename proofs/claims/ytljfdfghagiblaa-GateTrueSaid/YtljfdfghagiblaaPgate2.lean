/- The gate's reads and writes,in plain words. -/
import Derived.Test.YtljfdfghagiblaaPgate
import Derived.Test.YtljfdfghagiblaaPtree
set_option linter.unusedVariables false
set_option linter.unusedSimpArgs false
namespace Go.Proofs.Ytljfdfghagiblaa.S2.Mk
open Go Go.Proofs.Ytljfdfghagiblaa.S2
theorem bindS {α β:Type} {x:Option α} {a:α} {f:α→Option β} {r:Option β} (h:x = some a) (k:f a = r):x.bind f = r:=by rw [h]; exact k
instance (i:Int) (p:List Int):Decidable (okClimb i p):=by unfold okClimb; exact inferInstance
theorem parL_u {s:ByteArray} (h:(parL s).2 = true):u64I (parL s).1.1∧u64I (parL s).1.2.1∧u64I (parL s).1.2.2.1∧u64I (parL s).1.2.2.2.1:=by
  unfold parL at h ⊢
  split at h
  · rename_i ho
    rw [if_pos ho]
    obtain ⟨⟨h1,h2,h3,h4⟩,h5⟩:=ho
    obtain ⟨n1,a1,b1,c1⟩:=tak_back (s:=s) h1
    obtain ⟨n2,a2,b2,c2⟩:=tak_back (s:=(q1 s).2.1) h2
    obtain ⟨n3,a3,b3,c3⟩:=tak_back (s:=(q2 s).2.1) h3
    obtain ⟨n4,a4,b4,c4⟩:=tak_back (s:=(q3 s).2.1) h4
    have e1:(q1 s).1 = (n1:Int):=a1
    have e2:(q2 s).1 = (n2:Int):=a2
    have e3:(q3 s).1 = (n3:Int):=a3
    have e4:(q4 s).1 = (n4:Int):=a4
    unfold lfOf u64I
    dsimp only
    omega
  · cases h
def looks (o:Or) (leaf:ByteArray) (path:List Int):Or:=if (parL leaf).2 = true then ((meets o path).meet (parL leaf).1.2.2.1).meet (parL leaf).1.2.2.2.1 else meets o path
def leadsF (d:Int) (o:Or) (sector:Int) (leaf:ByteArray) (path:List Int):(Int×Bool)×Or :=
  if (path.length:Int) = d∧okClimb (IntKind.i64.wrap sector) path then (((climbF (looks o leaf path) leaf (IntKind.i64.wrap sector).toNat path).1,true),(climbF (looks o leaf path) leaf (IntKind.i64.wrap sector).toNat path).2) else ((0,false),looks o leaf path)
theorem meets_G:∀ (p:List Int) {o:Or},G o→G (meets o p)∧X o (meets o p)∧(meets o p).drawn = o.drawn
  | [],o,g=>⟨g,X.refl o,rfl⟩
  | h :: p,o,g=>by
    obtain ⟨g1,x1⟩:=meet_G g h
    obtain ⟨g2,x2,d2⟩:=meets_G p g1
    exact ⟨g2,x1.trans x2,d2.trans (meet_wf g.wf h).2⟩
theorem looks_G {o:Or} (g:G o) (leaf:ByteArray) (path:List Int):G (looks o leaf path)∧X o (looks o leaf path)∧(looks o leaf path).drawn = o.drawn:=by
  obtain ⟨g1,x1,d1⟩:=meets_G path g
  unfold looks
  split
  · obtain ⟨g2,x2⟩:=meet_G g1 (parL leaf).1.2.2.1
    obtain ⟨g3,x3⟩:=meet_G g2 (parL leaf).1.2.2.2.1
    exact ⟨g3,x1.trans (x2.trans x3),((meet_wf g2.wf _).2).trans (((meet_wf g1.wf _).2).trans d1)⟩
  · exact ⟨g1,x1,d1⟩
theorem leads_G {o:Or} (g:G o) (d:Int) (sector:Int) (leaf:ByteArray) (path:List Int) (hd:o.drawn≤3000000000000000000):G (leadsF d o sector leaf path).2∧X o (leadsF d o sector leaf path).2∧(leadsF d o sector leaf path).2.drawn≤o.drawn + 9:=by
  obtain ⟨g1,x1,d1⟩:=looks_G g leaf path
  unfold leadsF
  split
  · rename_i h
    obtain ⟨g2,x2,d2,_⟩:=climbF_G g1 (s:=leaf) (i:=(IntKind.i64.wrap sector).toNat) (p:=path) h.2.1 (by omega)
    exact ⟨g2,x1.trans x2,by show (climbF _ _ _ _).2.drawn≤_; omega⟩
  · exact ⟨g1,x1,by show (looks o leaf path).drawn≤_; omega⟩
theorem e_leads {o:Or} {k v d sector:Int} {S:List ByteArray} {leaf:ByteArray} {path:List Int} (g:G o) (hd:o.drawn≤3000000000000000000) (hs:leaf.size≤140737488355328) (hu:∀ x,x∈path→U x) (hl:path.length≤1000000000000000) (hl2:path.length≤140737488355328) :
    F_k24 (sector,(leaf,path,()),()) (gm k v d o S) = some (((leadsF d o sector leaf path).1.1,(leadsF d o sector leaf path).1.2,()),gm k v d (leadsF d o sector leaf path).2 S):=by
  have hL:=leads_loop k v d sector S leaf path path [] o (by simpa using hl2)
  have hP:=e_LParse (s:=leaf)
  obtain ⟨g0,x0,d0⟩:=meets_G path g
  have hfin:∀ o':Or,G o'→o'.drawn = o.drawn→o' = looks o leaf path →
      (cond ((path.length:Int) != d) (some ((0,false,()),gm k v d o' S)) ((F_k44 (leaf,IntKind.i64.wrap sector,path,()) o'.m).bind fun r=>some ((r.1.1,r.1.2.1,()),((k,v,d,()),(r.2.1.1,r.2.1.2.1,r.2.1.2.2.1,()),(),r.2.2.1,r.2.2.2.1,r.2.2.2.2.1,r.2.2.2.2.2.1,r.2.2.2.2.2.2.1,r.2.2.2.2.2.2.2.1,r.2.2.2.2.2.2.2.2.1,(256,()),S,[],())))) =
        some (((leadsF d o sector leaf path).1.1,(leadsF d o sector leaf path).1.2,()),gm k v d (leadsF d o sector leaf path).2 S):=by
    intro o' g' d' e
    obtain ⟨c1,c2⟩:=e_Climb (o:=o') (i:=IntKind.i64.wrap sector) (p:=path) (s:=leaf) g'.wf (by omega) hs hu
    unfold leadsF
    by_cases hp:(path.length:Int) = d
    · refine (c_f (by rw [hp]; exact bne_self_eq_false _)).trans ?_
      by_cases ok:okClimb (IntKind.i64.wrap sector) path
      · rw [if_pos ⟨hp,ok⟩,c1 ok,← e]
        rfl
      · rw [if_neg (fun h=>ok h.2),c2 ok,← e]
        rfl
    · refine (c_t (bne_iff_ne.2 hp)).trans ?_
      rw [if_neg (fun h=>hp h.1),← e]
  unfold F_k24 tree_k24
  refine bindS hL ?_
  refine bindS hP ?_
  rcases (Bool.eq_false_or_eq_true ((parL leaf).2)).symm with hq | hq
  · refine (c_f hq).trans ?_
    exact hfin (meets o path) g0 d0 (by unfold looks; rw [hq]; rfl)
  · refine (c_t hq).trans ?_
    have h1:=e_Meet (meets o path) (parL leaf).1.2.2.1
    have h2:=e_Meet ((meets o path).meet (parL leaf).1.2.2.1) (parL leaf).1.2.2.2.1
    obtain ⟨g1,_⟩:=meet_G g0 (parL leaf).1.2.2.1
    obtain ⟨g2,_⟩:=meet_G g1 (parL leaf).1.2.2.2.1
    refine bindS h1 ?_
    refine bindS h2 ?_
    exact hfin (((meets o path).meet (parL leaf).1.2.2.1).meet (parL leaf).1.2.2.2.1) g2 (((meet_wf g1.wf _).2).trans (((meet_wf g0.wf _).2).trans d0)) (by unfold looks; rw [hq]; rfl)
def unlF (k v:Int) (o:Or) (sector:Int) (leaf:ByteArray):ByteArray×Bool×Or:=o.opn k (parL leaf).1.2.2.1 (fourB v sector (parL leaf).1.1 (parL leaf).1.2.1) (parL leaf).1.2.2.2.1
def readF (k v d:Int) (o:Or) (S:List ByteArray) (sector:Int) (leaf:ByteArray) (path:List Int):(ByteArray×Int)×Or :=
  if beginsE (trustD S []) sector d≠0 then ((ByteArray.empty,beginsE (trustD S []) sector d),o)
  else if (leadsF d o sector leaf path).1.2 = false∨(leadsF d o sector leaf path).1.1≠(trustD S []).1.1 then ((ByteArray.empty,232),(leadsF d o sector leaf path).2)
  else if leaf = ByteArray.empty then ((ByteArray.empty,0),(leadsF d o sector leaf path).2)
  else if (parL leaf).2 = false then ((ByteArray.empty,233),(leadsF d o sector leaf path).2)
  else if (unlF k v (leadsF d o sector leaf path).2 sector leaf).2.1 = false then ((ByteArray.empty,233),(unlF k v (leadsF d o sector leaf path).2 sector leaf).2.2)
  else (((unlF k v (leadsF d o sector leaf path).2 sector leaf).1,0),(unlF k v (leadsF d o sector leaf path).2 sector leaf).2.2)
structure Shw (leaf:ByteArray) (path:List Int):Prop where
  sz:leaf.size≤140737488355328
  u:∀ x,x∈path→U x
  len:path.length≤140737488355328
theorem e_Read {o:Or} {k v d sector:Int} {S:List ByteArray} {leaf:ByteArray} {path:List Int} (g:G o) (hd:o.drawn≤900000000) (hw:Shw leaf path) (h0:0≤d) (h4:d≤4) (hD:DInv 256 S []) (hv:u64I v) (hs:u64I sector) :
    F_k15 (sector,(leaf,path,()),()) (gm k v d o S) = some (((readF k v d o S sector leaf path).1.1,(readF k v d o S sector leaf path).1.2,()),gm k v d (readF k v d o S sector leaf path).2 S):=by
  have hb:=e_begins o (k:=k) (v:=v) (sector:=sector) h0 h4 hD
  have hL:=e_leads (k:=k) (v:=v) (d:=d) (sector:=sector) (S:=S) g (by omega) hw.sz hw.u (by have:=hw.len; omega) hw.len
  obtain ⟨g1,x1,d1⟩:=leads_G g d sector leaf path (by omega)
  unfold F_k15 tree_k15 readF
  refine bindS hb ?_
  by_cases hbe:beginsE (trustD S []) sector d = 0
  · rw [if_neg (fun h=>h hbe)]
    refine (c_f (by rw [hbe]; rfl)).trans ?_
    refine bindS hL ?_
    generalize hL':leadsF d o sector leaf path = L at g1 d1 ⊢
    rcases (Bool.eq_false_or_eq_true (L.1.2)).symm with hL1 | hL1
    · rw [if_pos (Or.inl hL1)]
      exact c_t (by rw [hL1]; rfl)
    · refine (c_f (by rw [hL1]; rfl)).trans ?_
      by_cases hr:L.1.1 = (trustD S []).1.1
      · rw [if_neg (fun h=>h.elim (fun h=>by rw [hL1] at h; cases h) (fun h=>h hr))]
        refine (c_f (by rw [hr]; exact bne_self_eq_false _)).trans ?_
        by_cases hle:leaf = ByteArray.empty
        · rw [if_pos hle]
          exact c_t (by rw [hle]; exact bytes_self _)
        · rw [if_neg hle]
          refine (c_f (by rw [bytes_beq,decide_eq_false hle])).trans ?_
          refine bindS (e_LParse (s:=leaf)) ?_
          rcases (Bool.eq_false_or_eq_true ((parL leaf).2)).symm with hq | hq
          · rw [if_pos hq]
            exact c_t (by rw [hq]; rfl)
          · rw [if_neg (by rw [hq]; decide)]
            refine (c_f (by rw [hq]; rfl)).trans ?_
            obtain ⟨p1,p2,p3,p4⟩:=parL_u hq
            have hU:=e_Unlock L.2 (key:=k) (volume:=v) (sector:=sector) (version:=(parL leaf).1.1) (epoch:=(parL leaf).1.2.1) (nonce:=(parL leaf).1.2.2.1) (c:=(parL leaf).1.2.2.2.1) hv hs p1 p2 g1.told (by have:=g1.pl; omega)
            refine bindS hU ?_
            show cond (!(unlF k v L.2 sector leaf).2.1) _ _ = _
            rcases (Bool.eq_false_or_eq_true ((unlF k v L.2 sector leaf).2.1)).symm with hu | hu
            · rw [if_pos hu]
              exact c_t (by rw [hu]; rfl)
            · rw [if_neg (by rw [hu]; decide)]
              exact c_f (by rw [hu]; rfl)
      · rw [if_pos (Or.inr hr)]
        exact c_t (bne_iff_ne.2 hr)
  · rw [if_pos hbe]
    exact c_t (bne_iff_ne.2 hbe)
def changeF (d:Int) (o:Or) (S:List ByteArray) (sector:Int) (leaf:ByteArray) (path:List Int) (mk:Or→Int→ByteArray×Or):(ByteArray×Int)×Or×List ByteArray :=
  if beginsE (trustD S []) sector d≠0 then ((ByteArray.empty,beginsE (trustD S []) sector d),o,S)
  else if (leadsF d o sector leaf path).1.2 = false∨(leadsF d o sector leaf path).1.1≠(trustD S []).1.1 then ((ByteArray.empty,232),(leadsF d o sector leaf path).2,S)
  else
    let m:=mk (leadsF d o sector leaf path).2 (IntKind.u64.wrap ((trustD S []).1.2.1 + 1))
    let c:=climbF m.2 m.1 (IntKind.i64.wrap sector).toNat path
    let D:=doD 256 S [] (intT (trustD S []) sector m.1 c.1)
    if D.1 = true then ((m.1,0),c.2,D.2.1) else ((ByteArray.empty,235),c.2,D.2.1)
def sealL (k v sector epoch:Int) (p:ByteArray) (o:Or) (version:Int):ByteArray×Or :=
  (fourB version epoch (o.lock k v sector version epoch p).1 (o.lock k v sector version epoch p).2.1,(o.lock k v sector version epoch p).2.2)
def writeF (k v d:Int) (o:Or) (S:List ByteArray) (sector epoch:Int) (p:ByteArray) (leaf:ByteArray) (path:List Int):(ByteArray×Int)×Or×List ByteArray :=
  if beginsE (trustD S []) sector d = 0∧(p.size:Int) > 4096 then ((ByteArray.empty,231),o,S) else changeF d o S sector leaf path (sealL k v sector epoch p)
def trimF (d:Int) (o:Or) (S:List ByteArray) (sector:Int) (leaf:ByteArray) (path:List Int):(ByteArray×Int)×Or×List ByteArray:=changeF d o S sector leaf path (fun o _=>(ByteArray.empty,o))
def gmc (k v d:Int) (o:Or) (S:List ByteArray):(Int×Int×Int×Unit)×(List Int×Int×Bool×Unit)×Unit×List (Int×Int)×List (Int×Int)×List (ByteArray×Int)×List (TagK×Int)×List (SealK×Int)×List (ToldK×Int)×Unit×(Int×Unit)×List ByteArray×Unit×List ByteArray×List W2×Unit:=((k,v,d,()),(o.draws,o.drawn,o.bad,()),(),o.issued,o.met,o.hashes,o.tags,o.seals,o.opens,(),(256,()),S,(),o.plains,[],())
theorem fourB_size {a b c d:Int} (ha:u64I a) (hb:u64I b) (hc:u64I c) (hd:u64I d):(fourB a b c d).size≤40:=by
  have s1:=S2.putB_size ha.1 ha.2
  have s2:=S2.putB_size hb.1 hb.2
  have s3:=S2.putB_size hc.1 hc.2
  have s4:=S2.putB_size hd.1 hd.2
  unfold fourB
  simp only [ByteArray.size_append]
  omega
theorem u64_wrap (n:Int):u64I (IntKind.u64.wrap n):=by
  rw [u64w]
  unfold u64I
  omega
theorem sealL_G {o:Or} (g:G o) (k v sector epoch:Int) (p:ByteArray) (version:Int) (hd:o.drawn≤900000000) (hver:u64I version) (hep:u64I epoch) :
    G (sealL k v sector epoch p o version).2∧X o (sealL k v sector epoch p o version).2∧(sealL k v sector epoch p o version).2.drawn≤o.drawn + 2∧(sealL k v sector epoch p o version).1.size≤40:=by
  obtain ⟨g1,x1,u1,u2,d1,_⟩:=lock_G g k v sector version epoch p (by omega)
  exact ⟨g1,x1,d1,fourB_size hver hep u1 u2⟩
theorem e_Write1 {o:Or} {k v d sector epoch version:Int} {p:ByteArray} {S:List ByteArray} (g:G o) (hd:o.drawn≤900000000) (hv:u64I v) (hs:u64I sector) (he:u64I epoch) (hver:u64I version) :
    F_k20 (version,()) ((),(sector,()),(epoch,()),(p,()),(k,v,d,()),(o.draws,o.drawn,o.bad,()),(),o.issued,o.met,o.hashes,o.tags,o.seals,o.opens,o.plains,(256,()),S,[],()) =
      some ((sealL k v sector epoch p o version).1,((),(sector,()),(epoch,()),(p,()),(k,v,d,()),((sealL k v sector epoch p o version).2.draws,(sealL k v sector epoch p o version).2.drawn,(sealL k v sector epoch p o version).2.bad,()),(),(sealL k v sector epoch p o version).2.issued,(sealL k v sector epoch p o version).2.met,(sealL k v sector epoch p o version).2.hashes,(sealL k v sector epoch p o version).2.tags,(sealL k v sector epoch p o version).2.seals,(sealL k v sector epoch p o version).2.opens,(),(256,()),S,[],(sealL k v sector epoch p o version).2.plains,())):=by
  have hL:=e_Lock o (key:=k) (volume:=v) (sector:=sector) (version:=version) (epoch:=epoch) (p:=p) hv hs hver he g.wf.d0 (by omega) (by have:=g.pl; omega)
  obtain ⟨g1,x1,u1,u2,d1,_⟩:=lock_G g k v sector version epoch p (by omega)
  have hT:=e_LText hver he u1 u2
  unfold F_k20 tree_k20
  refine bindS hL ?_
  refine bindS hT ?_
  rfl
theorem e_change1 {o:Or} {k v d sector epoch:Int} {p:ByteArray} {S:List ByteArray} {leaf:ByteArray} {path:List Int} (g:G o) (hd:o.drawn≤900000000 - 100) (hw:Shw leaf path) (h0:0≤d) (h4:d≤4) (hD:DInv 256 S []) (hv:u64I v) (hs:u64I sector) (he:u64I epoch) :
    F_k22 (sector,(leaf,path,()),(),()) ((k,v,d,()),(),(sector,()),(epoch,()),(p,()),(o.draws,o.drawn,o.bad,()),(),o.issued,o.met,o.hashes,o.tags,o.seals,o.opens,o.plains,(256,()),S,[],()) =
      some (((changeF d o S sector leaf path (sealL k v sector epoch p)).1.1,(changeF d o S sector leaf path (sealL k v sector epoch p)).1.2,()),((k,v,d,()),(),(sector,()),(epoch,()),(p,()),(gmc k v d (changeF d o S sector leaf path (sealL k v sector epoch p)).2.1 (changeF d o S sector leaf path (sealL k v sector epoch p)).2.2).2)):=by
  have hb:=e_begins o (k:=k) (v:=v) (sector:=sector) h0 h4 hD
  have hL:=e_leads (k:=k) (v:=v) (d:=d) (sector:=sector) (S:=S) g (by omega) hw.sz hw.u (by have:=hw.len; omega) hw.len
  obtain ⟨g1,x1,d1⟩:=leads_G g d sector leaf path (by omega)
  have hok:(leadsF d o sector leaf path).1.2 = true→okClimb (IntKind.i64.wrap sector) path:=by
    unfold leadsF
    split
    · rename_i h; exact fun _=>h.2
    · intro h; cases h
  unfold F_k22 tree_k22 changeF
  refine bindS hb ?_
  by_cases hbe:beginsE (trustD S []) sector d = 0
  · rw [if_neg (fun h=>h hbe)]
    refine (c_f (by rw [hbe]; rfl)).trans ?_
    refine bindS hL ?_
    generalize hL':leadsF d o sector leaf path = L at g1 d1 hok ⊢
    rcases (Bool.eq_false_or_eq_true (L.1.2)).symm with hL1 | hL1
    · rw [if_pos (Or.inl hL1)]
      exact c_t (by rw [hL1]; rfl)
    · refine (c_f (by rw [hL1]; rfl)).trans ?_
      by_cases hr:L.1.1 = (trustD S []).1.1
      · rw [if_neg (fun h=>h.elim (fun h=>by rw [hL1] at h; cases h) (fun h=>h hr))]
        refine (c_f (by rw [hr]; exact bne_self_eq_false _)).trans ?_
        have hver:=u64_wrap ((trustD S []).1.2.1 + 1)
        generalize hV:IntKind.u64.wrap ((trustD S []).1.2.1 + 1) = V at hver
        have hW:=e_Write1 (d:=d) (p:=p) (k:=k) (S:=S) g1 (by omega) hv hs he hver
        obtain ⟨g2,x2,d2,z2⟩:=sealL_G g1 k v sector epoch p V (by omega) hver he
        dsimp only
        refine bindS hW ?_
        generalize sealL k v sector epoch p L.2 V = m at g2 d2 z2 ⊢
        obtain ⟨c1,_⟩:=e_Climb (o:=m.2) (i:=IntKind.i64.wrap sector) (p:=path) (s:=m.1) g2.wf (by omega) (by omega) hw.u
        have hC:=c1 (hok hL1)
        refine bindS hC ?_
        have hp8:path.length≤8:=(hok hL1).1
        obtain ⟨g3,x3,d3,u3⟩:=climbF_G g2 (s:=m.1) (i:=(IntKind.i64.wrap sector).toNat) (p:=path) hp8 (by omega)
        have hI:=e_Intend (sector:=sector) (next:=(climbF m.2 m.1 (IntKind.i64.wrap sector).toNat path).1) (leaf:=m.1) hs u3 (by omega) hD (by simp)
        rw [do_nil] at hI
        refine bindS hI ?_
        rcases Bool.eq_false_or_eq_true ((doD 256 S [] (intT (trustD S []) sector m.1 (climbF m.2 m.1 (IntKind.i64.wrap sector).toNat path).1)).1) with hdo | hdo
        · rw [if_pos hdo]
          exact c_f (by rw [hdo]; rfl)
        · rw [if_neg (by rw [hdo]; decide)]
          exact c_t (by rw [hdo]; rfl)
      · rw [if_pos (Or.inr hr)]
        exact c_t (bne_iff_ne.2 hr)
  · rw [if_pos hbe]
    exact c_t (bne_iff_ne.2 hbe)
theorem e_change2 {o:Or} {k v d sector:Int} {S:List ByteArray} {leaf:ByteArray} {path:List Int} (g:G o) (hd:o.drawn≤900000000 - 100) (hw:Shw leaf path) (h0:0≤d) (h4:d≤4) (hD:DInv 256 S []) (hs:u64I sector) :
    F_k23 (sector,(leaf,path,()),()) (gm k v d o S) =
      some (((trimF d o S sector leaf path).1.1,(trimF d o S sector leaf path).1.2,()),gmc k v d (trimF d o S sector leaf path).2.1 (trimF d o S sector leaf path).2.2):=by
  have hb:=e_begins o (k:=k) (v:=v) (sector:=sector) h0 h4 hD
  have hL:=e_leads (k:=k) (v:=v) (d:=d) (sector:=sector) (S:=S) g (by omega) hw.sz hw.u (by have:=hw.len; omega) hw.len
  obtain ⟨g1,x1,d1⟩:=leads_G g d sector leaf path (by omega)
  have hok:(leadsF d o sector leaf path).1.2 = true→okClimb (IntKind.i64.wrap sector) path:=by
    unfold leadsF
    split
    · rename_i h; exact fun _=>h.2
    · intro h; cases h
  unfold F_k23 tree_k23 trimF changeF
  refine bindS hb ?_
  by_cases hbe:beginsE (trustD S []) sector d = 0
  · rw [if_neg (fun h=>h hbe)]
    refine (c_f (by rw [hbe]; rfl)).trans ?_
    refine bindS hL ?_
    generalize hL':leadsF d o sector leaf path = L at g1 d1 hok ⊢
    rcases (Bool.eq_false_or_eq_true (L.1.2)).symm with hL1 | hL1
    · rw [if_pos (Or.inl hL1)]
      exact c_t (by rw [hL1]; rfl)
    · refine (c_f (by rw [hL1]; rfl)).trans ?_
      by_cases hr:L.1.1 = (trustD S []).1.1
      · rw [if_neg (fun h=>h.elim (fun h=>by rw [hL1] at h; cases h) (fun h=>h hr))]
        refine (c_f (by rw [hr]; exact bne_self_eq_false _)).trans ?_
        have hT:F_k18 (IntKind.u64.wrap ((trustD S []).1.2.1 + 1),()) () = some (ByteArray.empty,()):=rfl
        refine bindS hT ?_
        dsimp only
        obtain ⟨m,hm⟩:∃ m:ByteArray×Or,m = (ByteArray.empty,L.2):=⟨_,rfl⟩
        have hm1:ByteArray.empty = m.1:=by rw [hm]
        have hm2:L.2 = m.2:=by rw [hm]
        have z2:m.1.size≤40:=by rw [hm]; exact Nat.zero_le _
        have g2:G m.2:=by rw [hm]; exact g1
        have d2:m.2.drawn≤o.drawn + 9:=by rw [hm]; exact d1
        show ((F_k44 (ByteArray.empty,IntKind.i64.wrap sector,path,()) L.2.m).bind _) = _
        rw [hm1,hm2]
        obtain ⟨c1,_⟩:=e_Climb (o:=m.2) (i:=IntKind.i64.wrap sector) (p:=path) (s:=m.1) g2.wf (by omega) (by omega) hw.u
        have hC:=c1 (hok hL1)
        refine bindS hC ?_
        have hp8:path.length≤8:=(hok hL1).1
        obtain ⟨g3,x3,d3,u3⟩:=climbF_G g2 (s:=m.1) (i:=(IntKind.i64.wrap sector).toNat) (p:=path) hp8 (by omega)
        have hI:=e_Intend (sector:=sector) (next:=(climbF m.2 m.1 (IntKind.i64.wrap sector).toNat path).1) (leaf:=m.1) hs u3 (by omega) hD (by simp)
        rw [do_nil] at hI
        refine bindS hI ?_
        rcases Bool.eq_false_or_eq_true ((doD 256 S [] (intT (trustD S []) sector m.1 (climbF m.2 m.1 (IntKind.i64.wrap sector).toNat path).1)).1) with hdo | hdo
        · rw [if_pos hdo]
          exact c_f (by rw [hdo]; rfl)
        · rw [if_neg (by rw [hdo]; decide)]
          exact c_t (by rw [hdo]; rfl)
      · rw [if_pos (Or.inr hr)]
        exact c_t (bne_iff_ne.2 hr)
  · rw [if_pos hbe]
    exact c_t (bne_iff_ne.2 hbe)
theorem e_Write {o:Or} {k v d sector epoch:Int} {p:ByteArray} {S:List ByteArray} {leaf:ByteArray} {path:List Int} (g:G o) (hd:o.drawn≤900000000 - 100) (hw:Shw leaf path) (h0:0≤d) (h4:d≤4) (hD:DInv 256 S []) (hv:u64I v) (hs:u64I sector) (he:u64I epoch) :
    F_k19 (sector,epoch,p,(leaf,path,()),()) (gm k v d o S) =
      some (((writeF k v d o S sector epoch p leaf path).1.1,(writeF k v d o S sector epoch p leaf path).1.2,()),gmc k v d (writeF k v d o S sector epoch p leaf path).2.1 (writeF k v d o S sector epoch p leaf path).2.2):=by
  have hb:=e_begins o (k:=k) (v:=v) (sector:=sector) h0 h4 hD
  have hC:=e_change1 (p:=p) (k:=k) g hd hw h0 h4 hD hv hs he
  unfold F_k19 tree_k19 writeF
  refine bindS hb ?_
  by_cases hbe:beginsE (trustD S []) sector d = 0
  · refine (c_t (beq_iff_eq.2 hbe)).trans ?_
    by_cases hl:(p.size:Int) > 4096
    · rw [if_pos ⟨hbe,hl⟩]
      exact cd_t hl
    · rw [if_neg (fun h=>hl h.2)]
      refine (cd_f hl).trans ?_
      refine bindS hC ?_
      rfl
  · rw [if_neg (fun h=>hbe h.1)]
    refine (c_f (beq_false_of_ne hbe)).trans ?_
    refine bindS hC ?_
    rfl
theorem e_Trim {o:Or} {k v d sector:Int} {S:List ByteArray} {leaf:ByteArray} {path:List Int} (g:G o) (hd:o.drawn≤900000000 - 100) (hw:Shw leaf path) (h0:0≤d) (h4:d≤4) (hD:DInv 256 S []) (hs:u64I sector) :
    F_k17 (sector,(leaf,path,()),()) (gm k v d o S) =
      some ((trimF d o S sector leaf path).1.2,gmc k v d (trimF d o S sector leaf path).2.1 (trimF d o S sector leaf path).2.2):=by
  have hC:=e_change2 (k:=k) (v:=v) g hd hw h0 h4 hD hs
  unfold F_k17 tree_k17
  refine bindS hC ?_
  rfl
def recF (d:Int) (o:Or) (S:List ByteArray) (leaf:ByteArray) (path:List Int):(Bool×Int)×Or×List ByteArray :=
  if pendE (trustD S [])≠0 then ((false,pendE (trustD S [])),o,S)
  else
    let L:=leadsF d o (trustD S []).1.2.2.2.1 leaf path
    let t:=(trustD S []).1
    if L.1.2 = false∨(L.1.1≠t.2.2.2.2.1∧L.1.1≠t.1) then ((false,232),L.2,S)
    else if settleE S (L.1.1 == t.2.2.2.2.1)≠0 then ((false,settleE S (L.1.1 == t.2.2.2.2.1)),L.2,(doD 256 S [] (setT (trustD S []) (L.1.1 == t.2.2.2.2.1))).2.1)
    else ((L.1.1 == t.2.2.2.2.1,0),L.2,(doD 256 S [] (setT (trustD S []) (L.1.1 == t.2.2.2.2.1))).2.1)
theorem e_Recover {o:Or} {k v d:Int} {S:List ByteArray} {leaf:ByteArray} {path:List Int} (g:G o) (hd:o.drawn≤900000000) (hw:Shw leaf path) (hD:DInv 256 S []) :
    F_k16 ((leaf,path,()),()) (gm k v d o S) = some (((recF d o S leaf path).1.1,(recF d o S leaf path).1.2,()),gmw k v d (recF d o S leaf path).2.1 (recF d o S leaf path).2.2):=by
  have hp:=e_pending o (k:=k) (v:=v) (d:=d) hD
  have hL:=e_leads (k:=k) (v:=v) (d:=d) (sector:=(trustD S []).1.2.2.2.1) (S:=S) g (by omega) hw.sz hw.u (by have:=hw.len; omega) hw.len
  unfold F_k16 tree_k16 recF
  refine bindS hp ?_
  by_cases h:pendE (trustD S []) = 0
  · rw [if_neg (fun q=>q h)]
    refine (c_f (by rw [h]; rfl)).trans ?_
    refine bindS hL ?_
    dsimp only
    generalize leadsF d o (trustD S []).1.2.2.2.1 leaf path = L
    have hs:=e_settle L.2 (k:=k) (v:=v) (d:=d) (b:=L.1.1 == (trustD S []).1.2.2.2.2.1) hD
    have fin:∀ e,e = (F_k26 (L.1.1 == (trustD S []).1.2.2.2.2.1,()) (gm k v d L.2 S)).bind (fun r3 =>
        cond (r3.1 != 0) (some ((false,r3.1,()),((r3.2.1.1,r3.2.1.2.1,r3.2.1.2.2.1,()),(r3.2.2.1.1,r3.2.2.1.2.1,r3.2.2.1.2.2.1,()),(),r3.2.2.2.2.1,r3.2.2.2.2.2.1,r3.2.2.2.2.2.2.1,r3.2.2.2.2.2.2.2.1,r3.2.2.2.2.2.2.2.2.1,r3.2.2.2.2.2.2.2.2.2.1,r3.2.2.2.2.2.2.2.2.2.2.1,(r3.2.2.2.2.2.2.2.2.2.2.2.1.1,()),r3.2.2.2.2.2.2.2.2.2.2.2.2.1,(),r3.2.2.2.2.2.2.2.2.2.2.2.2.2.2.1,())))
          (some ((L.1.1 == (trustD S []).1.2.2.2.2.1,0,()),((r3.2.1.1,r3.2.1.2.1,r3.2.1.2.2.1,()),(r3.2.2.1.1,r3.2.2.1.2.1,r3.2.2.1.2.2.1,()),(),r3.2.2.2.2.1,r3.2.2.2.2.2.1,r3.2.2.2.2.2.2.1,r3.2.2.2.2.2.2.2.1,r3.2.2.2.2.2.2.2.2.1,r3.2.2.2.2.2.2.2.2.2.1,r3.2.2.2.2.2.2.2.2.2.2.1,(r3.2.2.2.2.2.2.2.2.2.2.2.1.1,()),r3.2.2.2.2.2.2.2.2.2.2.2.2.1,(),r3.2.2.2.2.2.2.2.2.2.2.2.2.2.2.1,())))) →
        e = (if settleE S (L.1.1 == (trustD S []).1.2.2.2.2.1)≠0 then some ((false,settleE S (L.1.1 == (trustD S []).1.2.2.2.2.1),()),gmw k v d L.2 (doD 256 S [] (setT (trustD S []) (L.1.1 == (trustD S []).1.2.2.2.2.1))).2.1) else some ((L.1.1 == (trustD S []).1.2.2.2.2.1,0,()),gmw k v d L.2 (doD 256 S [] (setT (trustD S []) (L.1.1 == (trustD S []).1.2.2.2.2.1))).2.1)):=by
      intro e he
      rw [he,hs]
      simp only [Option.bind_some]
      by_cases q:settleE S (L.1.1 == (trustD S []).1.2.2.2.2.1) = 0
      · rw [if_neg (fun z=>z q)]
        exact c_f (by rw [q]; rfl)
      · rw [if_pos q]
        exact c_t (bne_iff_ne.2 q)
    rcases (Bool.eq_false_or_eq_true (L.1.2)).symm with hL1 | hL1
    · rw [if_pos (Or.inl hL1)]
      exact c_t (by rw [hL1]; rfl)
    · refine (c_f (by rw [hL1]; rfl)).trans ?_
      by_cases h1:L.1.1 = (trustD S []).1.2.2.2.2.1
      · rw [if_neg (fun h=>h.elim (fun h=>by rw [hL1] at h; cases h) (fun h=>h.1 h1))]
        refine (c_f (by rw [h1]; exact bne_self_eq_false _)).trans ?_
        refine (fin _ rfl).trans ?_
        split <;> rfl
      · refine (c_t (bne_iff_ne.2 h1)).trans ?_
        by_cases h2:L.1.1 = (trustD S []).1.1
        · rw [if_neg (fun h=>h.elim (fun h=>by rw [hL1] at h; cases h) (fun h=>h.2 h2))]
          refine (c_f (by rw [h2]; exact bne_self_eq_false _)).trans ?_
          refine (fin _ rfl).trans ?_
          split <;> rfl
        · rw [if_pos (Or.inr ⟨h1,h2⟩)]
          exact c_t (bne_iff_ne.2 h2)
  · rw [if_pos h]
    exact c_t (bne_iff_ne.2 h)
def fmtF (d:Nat) (o:Or) (S:List ByteArray):Bool×Or×List ByteArray :=
  ((doD 256 S [] (some (resetT (rootT (buildS d [] o).1)))).1,(buildS d [] o).2,(doD 256 S [] (some (resetT (rootT (buildS d [] o).1)))).2.1)
theorem e_Format {o:Or} {k v:Int} {d:Nat} {S:List ByteArray} (g:G o) (hd:o.drawn≤900000000) (h4:d≤4) (hD:DInv 256 S []) :
    F_k14 () (gm k v (d:Int) o S) = some ((fmtF d o S).1,gmw k v (d:Int) (fmtF d o S).2.1 (fmtF d o S).2.2):=by
  obtain ⟨b1,_⟩:=e_Build (o:=o) (d:=(d:Int)) (ls:=[]) g.wf (by omega) (by intro s hs; cases hs)
  have hB:=b1 ⟨by omega,by omega,Nat.zero_le _⟩
  obtain ⟨w3,x3,d3,t3,u3,len3,hl3,lf3⟩:=build_wf (ls:=[]) (d:=d) g.wf (by omega) (by omega)
  obtain ⟨r1,r2⟩:=root_get (shp_of_tree t3)
  rw [show (buildS d [] o).1.length - 1 = d by omega] at r1 r2
  have hR:=e_Reset (root:=rootT (buildS d [] o).1) (root_U u3) hD (by simp)
  rw [do_nil] at hR
  simp only [Int.toNat_natCast] at hB
  unfold F_k14 tree_k14 fmtF
  refine bindS hB ?_
  show cond true _ _ = _
  rw [cond_true]
  refine (cd_t (by show (0:Int)≤(d:Int); omega)).trans ?_
  refine (cd_t (by show (d:Int) < ((buildS d [] o).1.length:Int); omega)).trans ?_
  refine (cd_t (by show (0:Int) < (((buildS d [] o).1.getD ((d:Int)).toNat []).length:Int); rw [Int.toNat_natCast,r1]; decide)).trans ?_
  refine bindS (show F_k70 ((((buildS d [] o).1.getD ((d:Int)).toNat []).getD 0 0),()) _ = _ from (by rw [Int.toNat_natCast,← r2]; exact hR)) ?_
  rfl
end Go.Proofs.Ytljfdfghagiblaa.S2.Mk
